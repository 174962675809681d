/- Texts of our own that a row leans on, put together. No condition of their own. -/
import Derived.Test.YtkjabaihpkbfhaaGreatMRowSavePuts2
set_option linter.unusedVariables false
set_option linter.unusedSimpArgs false
set_option maxRecDepth 100000
set_option maxHeartbeats 2000000
namespace Go.Proofs.YtkjabaihpkbfhaaGreat.Wk
open Go Go.RowKit Go.Proofs.YtkjabaihpkbfhaaGreat Go.Proofs.YtkjabaihpkbfhaaGreat.K Go.Proofs.YtkjabaihpkbfhaaGreat.T
theorem tQ (W:World)(ls:List (Loc Int))(f:Nat→List bo)(hT:dE ls (fun r=>bI (f r)))(hc:∀r,can (f r))(hR:∀(r:Nat) (l:Loc Int),ls[r]?=some l→j0 W l.a l.c l.xs)(hb:∀r,r<16→(f r).length≤100000000000):Calls Tryz.prog 259 #[.agg (ls.map Loc.v).toArray] W fun e w'=>∃q:PL,e=.returned (.agg #[.slice q.va q.d.vec.length q.vc,.slice q.ca q.d.ab.length q.cc])∧q.d=fW f∧Sat W w' [cI 3 q.va q.vc q.d.vec,bK 219 q.ca q.cc q.d.ab]:=by
 refine enter Tryz.func259 rfl rfl rfl (.cons (i:=0) rfl .nil) ?_;have hS:=Sat.start W;refine uC 2 ?_;refine uB rfl hS ?_;clear hS;intro b1 w hS;refine uN dL hS ?_;clear hS;intro b2 w hS;refine uO 4 ?_;refine uN dL hS ?_;clear hS;intro b3 w hS;refine uO 4 ?_;intro a hA;refine LI hA rfl rfl rfl aE jQ rfl (by decide) (by decide) hS ?_;clear hA a hS;intro b8 w hS;refine uO 15 ?_;intro a hA
 refine wp_loop_ghost (fun (mm:Nat) a w=>∃(r:Nat) (Ac:Option Addr) (cc:Nat),Ag a 73 [(1,.pointer (some ⟨b1,0,none⟩)),(2,.pointer (some ⟨b2,0,none⟩)),(3,.pointer (some ⟨b3,0,none⟩)),(4,.slice (some ⟨b8,0,none⟩) 16 16),(5,.int .i64 (((cB (bj f) r):Nat):Int)),(6,.int .i64 ((r:Nat):Int))]∧Sat W w ([dz 377 b1 ls,a8 b3 (.cells #[.slice none 0 0,.slice Ac (((List.range r).flatMap (aS f))).length cc] 63),bK 219 Ac cc ((List.range r).flatMap (aS f)),a8 b8 (.cells (((List.range r).map (bj f)++List.replicate (16-r) 0).map (Value.int .i64)).toArray 3 (0,0)),a8 b2 (.cells #[.slice none 0 0,.slice none 0 0] 63)])∧(r≤16)∧mm=16-r) 16 ?_ ?_
 ·replace hA:=hA.kp [1,2,3,4,5,6] rfl;have hS1:Sat W w [dz 377 b1 ls,a8 b3 (.cells #[.slice none 0 0,.slice none ((List.range 0).flatMap (aS f)).length 0] 63),bK 219 none 0 ((List.range 0).flatMap (aS f)),a8 b8 (.cells (((List.range 0).map (bj f)++List.replicate (16-0) 0).map (Value.int .i64)).toArray 3 (0,0)),a8 b2 (.cells #[.slice none 0 0,.slice none 0 0] 63)]:=((((((hS.aY 219 3).p 3).p 2).p 2).p 3).p 4);exact⟨0,none,0,hA,hS1,(by omega),by omega⟩
 intro m a w hI;clear hS hA;obtain⟨r,Ac,cc,hA,hS,hr,rfl⟩:=hI;refine rC 4 hA ?_;clear hA a;refine aR 0 0 (aw rfl rfl) ?_ ?_
 ·intro h10;obtain⟨lA,lc,hl⟩:=hT.get (show r<16 by omega);have hrd:j0 W lA lc (bI (f r)):=hR r _ hl;have hcr:=hc r;have hbr:=hb r (by omega);have hpl:=jC (f r);have hcl:=qR hb r (by omega);refine uO 13 ?_;intro a hA
  refine wp_loop_ghost (fun (mm:Nat) a w=>∃(q sz:Nat) (Ac:Option Addr) (cc:Nat),Ag a 73 [(1,.pointer (some ⟨b1,0,none⟩)),(2,.pointer (some ⟨b2,0,none⟩)),(3,.pointer (some ⟨b3,0,none⟩)),(4,.slice (some ⟨b8,0,none⟩) 16 16),(5,.int .i64 ((sz:Nat):Int)),(6,.int .i64 ((r:Nat):Int)),(7,.int .i64 (((2 * q):Nat):Int))]∧Sat W w ([dz 377 b1 ls,a8 b3 (.cells #[.slice none 0 0,.slice Ac ((((List.range r).flatMap (aS f))++(aT ((f r).take q)).2.map (jR r))).length cc] 63),bK 219 Ac cc (((List.range r).flatMap (aS f))++(aT ((f r).take q)).2.map (jR r)),a8 b8 (.cells (j1 (bj f) r (aT ((f r).take q)).1).toArray 3 (0,0)),a8 b2 (.cells #[.slice none 0 0,.slice none 0 0] 63)])∧(q≤(f r).length)∧(sz=if 0<(aT ((f r).take q)).1 then r+1 else cB (bj f) r)∧mm=(f r).length-q) (f r).length ?_ ?_
  ·replace hA:=hA.kp [1,2,3,4,5,6,7] rfl;rw[y3 (f:=(bj f)) (by omega)]at hS
   have hS1:Sat W w [dz 377 b1 ls,a8 b3 (.cells #[.slice none 0 0,.slice Ac ((((List.range r).flatMap (aS f))++(aT ((f r).take 0)).2.map (jR r))).length cc] 63),bK 219 Ac cc (((List.range r).flatMap (aS f))++(aT ((f r).take 0)).2.map (jR r)),a8 b8 (.cells (j1 (bj f) r (aT ((f r).take 0)).1).toArray 3 (0,0)),a8 b2 (.cells #[.slice none 0 0,.slice none 0 0] 63)]:=by
    rw[List.take_zero,show (aT []).2=[] from rfl,List.map_nil,List.append_nil];exact hS
   exact⟨0,(cB (bj f) r),Ac,cc,hA,hS1,(by omega),(by rfl),by omega⟩
  intro m a w hI;clear hS hA;obtain⟨q,sz,Ac,cc,hA,hS,hq,hsz,rfl⟩:=hI;refine rC 4 hA ?_;clear hA a;refine u1 1 (ah rfl rfl (by omega) (by omega)) ?_;refine u1 0 (aa rfl ig) ?_;refine u1 0 (aW rfl rfl fA fS (by omega) (by omega)) ?_;refine u1 0 (aq rfl cW (ju hS hl)) ?_;refine u1 0 (ar rfl aE) ?_;refine aR 0 0 (aw rfl rfl) ?_ ?_
  ·intro h20;obtain⟨x,hx⟩:∃x,(f r)[q]?=some x:=⟨_,List.getElem?_eq_getElem (by omega)⟩;obtain⟨hx1,hx2⟩:=wM hx;have hxe:=hcr.each x (List.mem_of_getElem? hx);intro a hA;rw[dI]at hxe;have hgl:=lL ((f r).take q);rw[List.length_take]at hgl;have hcl2:(((List.range r).flatMap (aS f))++(aT ((f r).take q)).2.map (jR r)).length≤r * 100000000000+q:=by rw[List.length_append,List.length_map];omega
   refine rO 10 hA ?_;clear hA a;refine u1 0 (aa rfl ig) ?_;refine u1 0 (aW rfl rfl fA fS (by omega) (by omega)) ?_;refine u1 1 (aq rfl cW (ju hS hl)) ?_;obtain⟨lA_p,rfl⟩:∃q,lA=some q:=(hrd.sat hS).av (by omega);refine u1 0 (aj rfl rfl aE fQ (by omega) (by omega)) ?_;refine u1 0 (aq rfl aQ (gb (hrd.sat hS) (bu hx1))) ?_;refine aR 0 0 (bn rfl rfl) ?_ ?_
   ·intro h30;refine uO 8 ?_;refine u1 0 (aa rfl ig) ?_;refine u1 0 (aW rfl rfl fA fS (by omega) (by omega)) ?_;refine u1 1 (aq rfl cW (ju hS hl)) ?_;refine u1 0 (ah rfl rfl (by omega) (by omega)) ?_;refine u1 0 (aj rfl rfl aE fQ (by omega) (by omega)) ?_;refine u1 0 (aq rfl aQ (gb (hrd.sat hS) (bu hx2))) ?_;refine u1 0 (aZ rfl rfl (by omega) (by omega)) ?_;refine u1 0 (aj rfl rfl aE fQ (by omega) (by omega)) ?_;intro a hA;refine JF (j:=r) hA rfl (by rw[add_lit];simp) rfl aQ fQ rfl (hS.p 3) (AK _) ?_;clear hS;intro w hS;rw[zT]at hS;refine rO 4 hA ?_;clear hA a;refine u1 6 (ah rfl rfl (by omega) (by omega)) ?_;refine u1 2 (ah rfl rfl (by omega) (by omega)) ?_;intro a hA;replace hA:=hA.kp [1,2,3,4,5,6,7] rfl;have hcg:=zB hcr (q+1);rw[aD hx]at hcg
    have els:=vX hcg;rw[←aD hx]at els;rw[if_pos h30]at els;have e1:(aT ((f r).take (q+1))).1=x.2:=by rw[els]
    have h0:(f r).take q=[]:=by
     cases hg:(f r).take q with
     | nil=>rfl
     | cons y t=>rw[hg]at hcg;have:=hcg.2.2.2.1 x (by simp);have:=hcg.1;have:=hcg.2.1;omega
    have e2:(aT ((f r).take (q+1))).2=(aT ((f r).take q)).2:=by rw[els,h0];rfl
    refine⟨(f r).length-(q+1),by omega,q+1,r+1,Ac,cc,?_,?_,by omega,?_,rfl⟩
    ·exact hA
    ·rw[e1,e2,show x.2=x.2+1-1 from by omega];exact (((hS.p 3).p 3).p 3)
    ·rw[e1,if_pos (by have:=hcr.each x (List.mem_of_getElem? hx);omega)]
   ·intro h30;refine uO 3 ?_;intro a hA;refine bh [21,23] hS (by kernel_rfl) ?_;replace hS:=hS.drew;refine P1 0 [] hA rfl (fun w=>(aa (hA.ev rfl) bZ)) ?_;clear hA a
    refine cT 1 [2,3] rfl (by exact⟨[],hS⟩) (fun w hT=>have hS:=hT.sat;(ld rfl eM)) ?_;refine bz 4 [] rfl (fun w=>(aa rfl ig)) ?_;refine bz 5 [] rfl (fun w=>(aW rfl rfl fA fS (by omega) (by omega))) ?_;refine cT 6 [7] rfl (by exact⟨[],hS⟩) (fun w hT=>have hS:=hT.sat;(aq rfl cW (ju hS hl))) ?_;refine bz 8 [] rfl (fun w=>(aj rfl rfl aE fQ (by omega) (by omega))) ?_;refine cT 9 [10] rfl (by exact⟨[],hS⟩) (fun w hT=>have hS:=hT.sat;(aq rfl aQ (gb (hrd.sat hS) (bu hx1)))) ?_;refine bz 11 [] rfl (fun w=>(aa rfl ig)) ?_;refine bz 12 [] rfl (fun w=>(aW rfl rfl fA fS (by omega) (by omega))) ?_;refine cT 13 [14] rfl (by exact⟨[],hS⟩) (fun w hT=>have hS:=hT.sat;(aq rfl cW (ju hS hl))) ?_;refine bz 15 [] rfl (fun w=>(ah rfl rfl (by omega) (by omega))) ?_;refine bz 16 [] rfl (fun w=>(aj rfl rfl aE fQ (by omega) (by omega))) ?_;refine cT 17 [] rfl (by exact⟨[],hS⟩) (fun w hT=>have hS:=hT.sat;(aq rfl aQ (gb (hrd.sat hS) (bu hx2)))) ?_;refine bz 18 [] rfl (fun w=>(aZ rfl rfl (by omega) (by omega))) ?_
    intro a hA;refine P1 19 [] hA rfl (fun w=>(aP hA rfl jy)) ?_;clear hA a;intro a hA;refine aG 20 (by kernel_rfl) ?_;refine vI (vss:=[[_,_,_]]) hA rfl rfl rfl dm o0 rfl rfl rfl (by simp) rfl hS ?_;clear hA a hS;intro A65 w hS;intro a hA;refine⟨.inr fun _=>(by exact⟨[_],hS⟩),?_⟩;refine aG 21 (by kernel_rfl) ?_;refine eA hA rfl rfl rfl rfl dm o0 rfl (hS.p 3) (hS.rd.src dm (by simp[Value.oneCell'])) (by omega) (by omega) ?_;clear hA a hS;intro A66 c66 w hc66 hS;intro a hA;refine⟨.inl rfl,?_⟩;refine P1 22 [] hA rfl (fun w=>(aa (hA.ev rfl) bZ)) ?_;clear hA a;intro a hA;refine aG 23 (by kernel_rfl) ?_;refine HF (cs':=[_,_]) hA rfl rfl rfl eM Ef rfl (hS.p 3) rfl rfl ?_;clear hS;intro w hS;refine⟨.inl rfl,?_⟩;refine ak (by kernel_rfl) ?_ _;refine rE 4 hA ?_;clear hA a
    refine u1 2 (ah rfl rfl (by omega) (by omega)) ?_;intro a hA;replace hA:=hA.kp [1,2,3,4,5,6,7] rfl;have hcg:=zB hcr (q+1);rw[aD hx]at hcg;have els:=vX hcg;rw[←aD hx]at els;rw[if_neg h30]at els;have e1:(aT ((f r).take (q+1))).1=(aT ((f r).take q)).1:=by rw[els]
    have e2:(((List.range r).flatMap (aS f))++(aT ((f r).take q)).2.map (jR r))++[jR r x]=((List.range r).flatMap (aS f))++(aT ((f r).take (q+1))).2.map (jR r):=by rw[els,List.map_append,List.append_assoc];rfl
    have el:(((List.range r).flatMap (aS f))++(aT ((f r).take q)).2.map (jR r)).length+1=(((List.range r).flatMap (aS f))++(aT ((f r).take (q+1))).2.map (jR r)).length:=by rw[←e2,List.length_append (bs:=[jR r x])];rfl
    have hS2:=iH (hS.p 1) (m:=(((List.range r).flatMap (aS f))++(aT ((f r).take (q+1))).2.map (jR r)).length) (cs':=(((List.range r).flatMap (aS f))++(aT ((f r).take (q+1))).2.map (jR r)).flatMap gx) el (by rw[←e2,List.flatMap_append];simp[gx,jR]);rw[el]at hS2;refine⟨(f r).length-(q+1),by omega,q+1,sz,A66,c66,hA,?_,by omega,by rw[e1];exact hsz,rfl⟩;rw[e1];exact (((((hS2.p 5).p 5).p 2).p 3).p 5).cZ [_,_,_,_,_]
  ·intro h20;refine uO 11 ?_;refine u1 2 (ah rfl rfl (by omega) (by omega)) ?_;intro a hA;replace hA:=hA.kp [1,2,3,4,5,6] rfl;have eg:(f r).take q=f r:=List.take_of_length_le (by omega);have ec:(((List.range r).flatMap (aS f))++(aT ((f r).take q)).2.map (jR r))=(List.range (r+1)).flatMap (aS f):=by rw[mJ,qq,eg]
   have ev:(j1 (bj f) r (aT ((f r).take q)).1)=((List.range (r+1)).map (bj f)++List.replicate (16-(r+1)) 0).map (Value.int .i64):=by rw[eg];exact Al (f:=(bj f)) (by omega)
   have es:sz=cB (bj f) (r+1):=by rw[hsz,eg];rfl
   rw[ec,ev]at hS;rw[es]at hA;exact⟨16-(r+1),by omega,r+1,Ac,cc,hA,hS,by omega,rfl⟩
 ·intro h10;obtain rfl:r=16:=by omega
  have hsz16:=mx (bj f) 16;refine uO 12 ?_;refine u1 0 (aJ (oN rfl rfl aE fQ (by omega) (by omega)) (show _=Value.slice (some ⟨b8,0,none⟩) (cB (bj f) 16) 16 from by rw[wj];rfl)) ?_;refine u1 0 (aa rfl cw) ?_;intro a hA;refine mj (cs':=[_,_]) hA rfl rfl cW fS rfl (hS.p 1) rfl rfl ?_;clear hS;intro w hS;refine rO 2 hA ?_;clear hA a;intro a hA;replace hA:=hA.kp [2,3] rfl;refine rC 2 hA ?_;clear hA a;refine u1 0 (ad (cs:=[_,_]) rfl a6 aC (by exact hS.ag (xs:=[_,_]) rfl)) ?_;refine uW (vs:=[_,_]) (cs':=[_,_]) rfl rfl aC (hS.p 4) ?_;clear hS;intro w hS;refine uO 3 ?_;intro a hA;refine gX hA rfl (dg (cs:=[_,_]) hA rfl a6 aC (by exact hS.ag (xs:=[_,_]) rfl)) ?_;have hS2:=((hS.p 4).GU (m:=16) (BA (Nat.le_refl _)) (by decide)).shrink hsz16 (by simp);rw[Nat.mul_one,yS hsz16]at hS2
  refine⟨⟨some ⟨b8,0,none⟩,16,Ac,cc,fW f⟩,by simp[fW],rfl,?_⟩;have hS3:=iH hS2 (m:=((List.range (cB (bj f) 16)).map (bj f)).length) (by simp) rfl;exact oO ((hS3.p 4).p 1)
theorem lB (W:World)(p:PL)(hp:p.ok W)(hlc:p.d.ab.length≤10000000000):Calls Tryz.prog 227 #[.agg #[.slice p.va p.d.vec.length p.vc,.slice p.ca p.d.ab.length p.cc]] W fun e w'=>∃q:PL,e=.returned (.agg #[.slice q.va q.d.vec.length q.vc,.slice q.ca q.d.ab.length q.cc])∧q.d=hJ p.d∧Sat W w' [cI 3 q.va q.vc q.d.vec,bK 219 q.ca q.cc q.d.ab]:=by
 refine enter Tryz.func227 rfl rfl rfl (.cons (i:=0) rfl .nil) ?_;have hS:=Sat.start W;refine uC 2 ?_;refine uB rfl hS ?_;clear hS;intro b1 w hS;refine uN dL hS ?_;clear hS;intro b2 w hS;refine uO 4 ?_;refine u1 0 (ad (cs:=[_,_]) rfl a6 aC (by exact (hS.p 1).ag (xs:=[_,_]) rfl)) ?_;refine uF Bn rfl (oV _ p (hp.sat hS) hlc) ?_;rintro e w ⟨ls,rfl,hT1,hT⟩;replace hS:=hS.aB hT;clear hT;refine⟨_,rfl,?_⟩;refine uF G7 rfl (tQ _ ls (aN p.d) hT1 (bx p.d) (fun r l h=>ko hS h) (fun r hr=>by have:=cD (cM p.d r);have:=ek p.d r;unfold aN;omega)) ?_;rintro e w ⟨q,rfl,hq,hT⟩;replace hS:Sat _ _ (_::_::_):=hS.ai hT;clear hT;refine⟨_,rfl,?_⟩;refine uW (vs:=[_,_]) (cs':=[_,_]) rfl rfl aC (hS.p 3) ?_;clear hS;intro w hS;refine uO 3 ?_;intro a hA
 refine gX hA rfl (dg (cs:=[_,_]) hA rfl a6 aC (by exact hS.ag (xs:=[_,_]) rfl)) ?_;exact⟨q,rfl,hq,oO ((hS.p 2).p 2)⟩
theorem mU (W:World)(r n:Int)  : Calls Tryz.prog 263 #[.agg #[.int .i64 r,.int .i64 n]] W fun e w'=>e=.returned (.bool (dD r n))∧Sat W w' []:=by
 refine enter Tryz.func263 rfl rfl rfl (.cons (i:=0) rfl .nil) ?_;have hS:=Sat.start W;refine uC 2 ?_;refine uB rfl hS ?_;clear hS;intro b1 w hS;refine uO 5 ?_;refine u1 0 (aa rfl bw) ?_;refine u1 0 (ld rfl aQ) ?_;refine aR 0 0 (eo rfl rfl) ?_ ?_
 ·intro h5;refine uO 1 ?_;refine u1 0 (aa rfl bw) ?_;refine u1 0 (ld rfl aQ) ?_;refine aR 0 0 (aw rfl rfl) ?_ ?_
  ·intro h9;refine uO 2 ?_;refine u1 0 (aa rfl bQ) ?_;refine u1 0 (ld rfl aQ) ?_;refine aR 0 0 (eo rfl rfl) ?_ ?_
   ·intro h14;refine uO 2 ?_;refine u1 0 (aa rfl bQ) ?_;refine u1 0 (ld rfl aQ) ?_;refine u1 5 (du rfl rfl) ?_;refine aX ?_;refine⟨?_,hS.nil⟩;unfold dD
    congr 2
    rw[Bool.eq_iff_iff];simp only[Bool.and_eq_true,decide_eq_true_eq,Bool.false_eq_true,false_iff];omega
   ·intro h14;refine uO 10 ?_;refine aX ?_;refine⟨?_,hS.nil⟩;unfold dD
    congr 2
    rw[Bool.eq_iff_iff];simp only[Bool.and_eq_true,decide_eq_true_eq,Bool.false_eq_true,false_iff];omega
  ·intro h9;refine uO 15 ?_;refine aX ?_;refine⟨?_,hS.nil⟩;unfold dD
   congr 2
   rw[Bool.eq_iff_iff];simp only[Bool.and_eq_true,decide_eq_true_eq,Bool.false_eq_true,false_iff];omega
 ·intro h5;refine uO 19 ?_;refine aX ?_;refine⟨?_,hS.nil⟩;unfold dD
  congr 2
  rw[Bool.eq_iff_iff];simp only[Bool.and_eq_true,decide_eq_true_eq,Bool.false_eq_true,false_iff];omega
theorem gu (W:World)(x y:Int)  : Calls Tryz.prog 281 #[.int .i64 x,.int .i64 y] W fun e w'=>e=.returned (.int .i64 (gr x y))∧Sat W w' []:=by
 refine enter Tryz.func281 rfl rfl rfl (.cons (i:=0) rfl (.cons (i:=1) rfl .nil)) ?_;have hS:=Sat.start W;refine uC 10 ?_;refine aR 0 0 (aw rfl rfl) ?_ ?_
 ·intro h7;refine uO 10 ?_;refine aX ?_;refine⟨?_,hS⟩;unfold gr
  (repeat' split)<;>rfl
 ·intro h7;refine uO 10 ?_;refine aR 0 0 (dv rfl rfl) ?_ ?_
  ·intro h10;refine uO 10 ?_;refine aX ?_;refine⟨?_,hS⟩;unfold gr
   (repeat' split)<;>first | rfl | omega
  ·intro h10;refine uO 11 ?_;refine aX ?_;refine⟨?_,hS⟩;unfold gr
   (repeat' split)<;>first | rfl | omega
theorem tv (W:World)(p:PL)(r n:Int)(hp:p.ok W)(hlv:p.d.vec.length≤1000000000000)(hlc:p.d.ab.length≤1000000000000):Calls Tryz.prog 271 #[.agg #[.slice p.va p.d.vec.length p.vc,.slice p.ca p.d.ab.length p.cc],.agg #[.int .i64 r,.int .i64 n]] W fun e w'=>e=.returned (.bool (hasB p.d r n))∧Sat W w' []:=by
 refine enter Tryz.func271 rfl rfl rfl (.cons (i:=0) rfl (.cons (i:=1) rfl .nil)) ?_;have hS:=Sat.start W;obtain⟨va,vc,ca,cc,d⟩:=p;have hpv:j0 W va vc d.vec:=hp.vec;have hpc:gK W ca cc d.ab:=hp.ab;intro a hA;dsimp only at hlv hlc hA ⊢;refine rC 2 hA ?_;clear hA a;refine uB rfl hS ?_;clear hS;intro b2 w hS;refine uB rfl hS ?_;clear hS;intro b3 w hS;refine uO 6 ?_;refine u1 0 (ad (cs:=[_,_]) rfl gk dZ (by exact hS.ag (xs:=[_,_]) rfl)) ?_;refine uF DS rfl (mU _ r n) ?_;rintro e w ⟨rfl,hT⟩;replace hS:Sat _ _ _:=hS.ai hT;clear hT;generalize h8:(dD r n)=bb;cases bb
 ·refine⟨_,rfl,?_⟩;refine u1 10 (aM rfl) ?_;refine aX ?_;refine⟨?_,hS.nil⟩;rw[hasB,h8];rfl
 ·refine⟨_,rfl,?_⟩;refine u1 7 (aM rfl) ?_;intro a hA;refine cF (fun w'=>Sat _ w' _) (by kernel_rfl) (by kernel_rfl) hS.drew ?_;refine Q1 0 hA (fun w hS=>(aa (hA.ev rfl) bw)) ?_;clear hA a;refine br 0 (fun w hS=>(ld rfl aQ)) ?_;refine br 0 (fun w hS=>(aa rfl cw)) ?_;refine br 0 (fun w hS=>(ld rfl cW)) ?_;refine br 0 (fun w hS=>(ar rfl aE)) ?_;intro a hA;refine K.se hA rfl rfl rfl (fun w hS=>(aw (hA.ev rfl) (hA.ev rfl))) ?_ ?_
  ·clear hA a;intro h15;have hdot:=h8;intro a hA;unfold dD at hdot;simp only[Bool.and_eq_true,decide_eq_true_eq]at hdot;refine rQ 1 hA ?_;clear hA a;refine br 0 (fun w hS=>(aa rfl bQ)) ?_;refine br 0 (fun w hS=>(ld rfl aQ)) ?_;refine br 0 (fun w hS=>(aa rfl cw)) ?_;refine br 0 (fun w hS=>(ld rfl cW)) ?_;refine br 0 (fun w hS=>(aa rfl bw)) ?_;refine br 0 (fun w hS=>(ld rfl aQ)) ?_;obtain⟨va_p,rfl⟩:∃q,va=some q:=(hpv.sat hS).av (by omega);obtain⟨v,hv⟩:∃zz_,d.vec[r.toNat]?=some zz_:=⟨_,List.getElem?_eq_getElem (by omega)⟩;refine br 0 (fun w hS=>(aj rfl rfl aE fQ (by omega) (by omega))) ?_;refine br 0 (fun w hS=>(aq rfl aQ (gb (hpv.sat hS) (bu hv)))) ?_;intro a hA;refine K.oY hA (ao hA rfl rfl rfl) rfl rfl (fun w hS=>(du (hA.ev rfl) (hA.ev rfl))) ?_ ?_
   ·clear hA a;intro h25;refine uQ 1 ?_;intro a hA;refine wpQuiet_nil ?_;clear hS;intro w hS;refine rE 9 hA ?_;clear hA a;refine aX ?_;have hv2:iF d.vec r n=true:=by unfold iF;rw[hv];simp;omega
    refine⟨?_,hS.nil⟩;rw[hasB,h8,hv2];simp
   ·clear hA a;intro h25;refine uQ 1 ?_;intro a hA;refine wpQuiet_nil ?_;clear hS;intro w hS;refine rE 11 hA ?_;clear hA a;intro a hA;refine wp_loop_ghost (fun (mm:Nat) a w=>∃(k:Nat),Ag a 58 [(2,.pointer (some ⟨b2,0,none⟩)),(3,.pointer (some ⟨b3,0,none⟩)),(5,.int .i64 ((k:Nat):Int))]∧Sat W w ([a8 b3 (.cells #[.int .i64 r,.int .i64 n] 214),a8 b2 (.cells #[.slice (some va_p) d.vec.length vc,.slice ca d.ab.length cc] 63)])∧(k≤d.ab.length)∧((d.ab.take k).any (fun s=>sF s r n)=false)∧mm=d.ab.length-k) d.ab.length ?_ ?_
    ·replace hA:=hA.kp [2,3,5] rfl;exact⟨0,hA,hS,(by omega),(by rfl),by omega⟩
    intro m a w hI;clear hS hA;obtain⟨k,hA,hS,hk,he,rfl⟩:=hI;refine rC 4 hA ?_;clear hA a;refine u1 0 (aa rfl bZ) ?_;refine u1 0 (ld rfl eM) ?_;refine u1 0 (ar rfl dm) ?_;refine aR 0 0 (aw rfl rfl) ?_ ?_
    ·intro h31;refine uO 9 ?_;refine u1 0 (aa rfl bZ) ?_;refine u1 1 (ld rfl eM) ?_;obtain⟨ca_p,rfl⟩:∃q,ca=some q:=(hpc.sat hS).av (by omega);obtain⟨s,hs⟩:∃zz_,d.ab[k]?=some zz_:=⟨_,List.getElem?_eq_getElem (by omega)⟩;refine u1 0 (aj rfl rfl dm cA (by omega) (by omega)) ?_;refine u1 0 (ad (cs:=gx s) rfl i6 cA (fun j u e=>bJ (hpc.sat hS) (dC hs j u e))) ?_;refine uN mg hS ?_;clear hS;intro b6 w hS;refine uW (vs:=[_,_,_]) (cs':=[_,_,_]) rfl rfl cA hS ?_;clear hS;intro w hS;refine uO 4 ?_;refine u1 0 (aa rfl bV) ?_;refine u1 0 (ld rfl aQ) ?_;refine u1 0 (aa rfl bw) ?_;refine u1 0 (ld rfl aQ) ?_;refine aR 0 0 (bn rfl rfl) ?_ ?_
     ·intro h43;refine uO 1 ?_;refine u1 0 (aa rfl dS) ?_;refine u1 0 (ld rfl aQ) ?_;refine u1 0 (aa rfl bQ) ?_;refine u1 0 (ld rfl aQ) ?_;refine aR 0 0 (du rfl rfl) ?_ ?_
      ·intro h49;refine uO 2 ?_;refine u1 0 (aa rfl bQ) ?_;refine u1 0 (ld rfl aQ) ?_;refine u1 0 (aa rfl dR) ?_;refine u1 0 (ld rfl aQ) ?_;refine aR 0 0 (du rfl rfl) ?_ ?_
       ·intro h56;refine uO 15 ?_;refine aX ?_;have hv2:iF d.vec r n=false:=by unfold iF;rw[hv];simp;omega
        have hsp:sF s r n=true:=by unfold sF;simp only[Bool.and_eq_true,decide_eq_true_eq];omega
        have hic:kg d.ab r n=true:=by rw[iD];exact List.any_eq_true.2 ⟨s,List.mem_of_getElem? hs,hsp⟩
        refine⟨?_,hS.nil⟩;rw[hasB,h8,hic];simp
       ·intro h56;refine uO 9 ?_;refine u1 2 (ah rfl rfl (by omega) (by omega)) ?_;intro a hA;replace hA:=hA.kp [2,3,5] rfl;have hsp:sF s r n=false:=by unfold sF;rw[Bool.eq_false_iff];simp only[ne_eq,Bool.and_eq_true,decide_eq_true_eq];omega
        refine⟨d.ab.length-(k+1),by omega,k+1,hA,hS.drop,by omega,?_,rfl⟩;rw[aD hs,List.any_append,he];simp[hsp]
      ·intro h49;refine uO 16 ?_;refine u1 2 (ah rfl rfl (by omega) (by omega)) ?_;intro a hA;replace hA:=hA.kp [2,3,5] rfl;have hsp:sF s r n=false:=by unfold sF;rw[Bool.eq_false_iff];simp only[ne_eq,Bool.and_eq_true,decide_eq_true_eq];omega
       refine⟨d.ab.length-(k+1),by omega,k+1,hA,hS.drop,by omega,?_,rfl⟩;rw[aD hs,List.any_append,he];simp[hsp]
     ·intro h43;refine uO 22 ?_;refine u1 2 (ah rfl rfl (by omega) (by omega)) ?_;intro a hA;replace hA:=hA.kp [2,3,5] rfl;have hsp:sF s r n=false:=by unfold sF;rw[Bool.eq_false_iff];simp only[ne_eq,Bool.and_eq_true,decide_eq_true_eq];omega
      refine⟨d.ab.length-(k+1),by omega,k+1,hA,hS.drop,by omega,?_,rfl⟩;rw[aD hs,List.any_append,he];simp[hsp]
    ·intro h31;refine uO 8 ?_;intro a hA;replace hA:=hA.kp [] rfl;refine rC 6 hA ?_;clear hA a;refine aX ?_;have hv2:iF d.vec r n=false:=by unfold iF;rw[hv];simp;omega
     rw[List.take_of_length_le (by omega)]at he;refine⟨?_,hS.nil⟩;rw[hasB,h8,hv2,iD,he];rfl
  ·clear hA a;intro h15;refine uQ 11 ?_;intro a hA;refine wpQuiet_nil ?_;clear hS;intro w hS;refine rE 11 hA ?_;clear hA a;intro a hA;refine wp_loop_ghost (fun (mm:Nat) a w=>∃(k:Nat),Ag a 58 [(2,.pointer (some ⟨b2,0,none⟩)),(3,.pointer (some ⟨b3,0,none⟩)),(5,.int .i64 ((k:Nat):Int))]∧Sat W w ([a8 b3 (.cells #[.int .i64 r,.int .i64 n] 214),a8 b2 (.cells #[.slice va d.vec.length vc,.slice ca d.ab.length cc] 63)])∧(k≤d.ab.length)∧((d.ab.take k).any (fun s=>sF s r n)=false)∧mm=d.ab.length-k) d.ab.length ?_ ?_
   ·replace hA:=hA.kp [2,3,5] rfl;exact⟨0,hA,hS,(by omega),(by rfl),by omega⟩
   intro m a w hI;clear hS hA;obtain⟨k,hA,hS,hk,he,rfl⟩:=hI;refine rC 4 hA ?_;clear hA a;refine u1 0 (aa rfl bZ) ?_;refine u1 0 (ld rfl eM) ?_;refine u1 0 (ar rfl dm) ?_;refine aR 0 0 (aw rfl rfl) ?_ ?_
   ·intro h31;refine uO 9 ?_;refine u1 0 (aa rfl bZ) ?_;refine u1 1 (ld rfl eM) ?_;obtain⟨ca_p,rfl⟩:∃q,ca=some q:=(hpc.sat hS).av (by omega);obtain⟨s,hs⟩:∃zz_,d.ab[k]?=some zz_:=⟨_,List.getElem?_eq_getElem (by omega)⟩;refine u1 0 (aj rfl rfl dm cA (by omega) (by omega)) ?_;refine u1 0 (ad (cs:=gx s) rfl i6 cA (fun j u e=>bJ (hpc.sat hS) (dC hs j u e))) ?_;refine uN mg hS ?_;clear hS;intro b6 w hS;refine uW (vs:=[_,_,_]) (cs':=[_,_,_]) rfl rfl cA hS ?_;clear hS;intro w hS;refine uO 4 ?_;refine u1 0 (aa rfl bV) ?_;refine u1 0 (ld rfl aQ) ?_;refine u1 0 (aa rfl bw) ?_;refine u1 0 (ld rfl aQ) ?_;refine aR 0 0 (bn rfl rfl) ?_ ?_
    ·intro h43;refine uO 1 ?_;refine u1 0 (aa rfl dS) ?_;refine u1 0 (ld rfl aQ) ?_;refine u1 0 (aa rfl bQ) ?_;refine u1 0 (ld rfl aQ) ?_;refine aR 0 0 (du rfl rfl) ?_ ?_
     ·intro h49;refine uO 2 ?_;refine u1 0 (aa rfl bQ) ?_;refine u1 0 (ld rfl aQ) ?_;refine u1 0 (aa rfl dR) ?_;refine u1 0 (ld rfl aQ) ?_;refine aR 0 0 (du rfl rfl) ?_ ?_
      ·intro h56;refine uO 15 ?_;refine aX ?_;have hv2:iF d.vec r n=false:=by unfold iF;rw[List.getElem?_eq_none (by omega)]
       have hsp:sF s r n=true:=by unfold sF;simp only[Bool.and_eq_true,decide_eq_true_eq];omega
       have hic:kg d.ab r n=true:=by rw[iD];exact List.any_eq_true.2 ⟨s,List.mem_of_getElem? hs,hsp⟩
       refine⟨?_,hS.nil⟩;rw[hasB,h8,hic];simp
      ·intro h56;refine uO 9 ?_;refine u1 2 (ah rfl rfl (by omega) (by omega)) ?_;intro a hA;replace hA:=hA.kp [2,3,5] rfl;have hsp:sF s r n=false:=by unfold sF;rw[Bool.eq_false_iff];simp only[ne_eq,Bool.and_eq_true,decide_eq_true_eq];omega
       refine⟨d.ab.length-(k+1),by omega,k+1,hA,hS.drop,by omega,?_,rfl⟩;rw[aD hs,List.any_append,he];simp[hsp]
     ·intro h49;refine uO 16 ?_;refine u1 2 (ah rfl rfl (by omega) (by omega)) ?_;intro a hA;replace hA:=hA.kp [2,3,5] rfl;have hsp:sF s r n=false:=by unfold sF;rw[Bool.eq_false_iff];simp only[ne_eq,Bool.and_eq_true,decide_eq_true_eq];omega
      refine⟨d.ab.length-(k+1),by omega,k+1,hA,hS.drop,by omega,?_,rfl⟩;rw[aD hs,List.any_append,he];simp[hsp]
    ·intro h43;refine uO 22 ?_;refine u1 2 (ah rfl rfl (by omega) (by omega)) ?_;intro a hA;replace hA:=hA.kp [2,3,5] rfl;have hsp:sF s r n=false:=by unfold sF;rw[Bool.eq_false_iff];simp only[ne_eq,Bool.and_eq_true,decide_eq_true_eq];omega
     refine⟨d.ab.length-(k+1),by omega,k+1,hA,hS.drop,by omega,?_,rfl⟩;rw[aD hs,List.any_append,he];simp[hsp]
   ·intro h31;refine uO 8 ?_;intro a hA;replace hA:=hA.kp [] rfl;refine rC 6 hA ?_;clear hA a;refine aX ?_;have hv2:iF d.vec r n=false:=by unfold iF;rw[List.getElem?_eq_none (by omega)]
    rw[List.take_of_length_le (by omega)]at he;refine⟨?_,hS.nil⟩;rw[hasB,h8,hv2,iD,he];rfl
theorem pQ (W:World)(p q:PL)(hp:p.ok W)(hq:q.ok W)(hl1:p.d.vec.length≤1000000000000)(hl2:p.d.ab.length≤1000000000000)(hl3:q.d.vec.length≤1000000000000)(hl4:q.d.ab.length≤1000000000000):Calls Tryz.prog 106 #[.agg #[.slice p.va p.d.vec.length p.vc,.slice p.ca p.d.ab.length p.cc],.agg #[.slice q.va q.d.vec.length q.vc,.slice q.ca q.d.ab.length q.cc]] W fun e w'=>e=.returned (.bool (decide (p.d=q.d)))∧Sat W w' []:=by
 refine enter Tryz.func106 rfl rfl rfl (.cons (i:=0) rfl (.cons (i:=1) rfl .nil)) ?_;have hS:=Sat.start W;obtain⟨va,vc,ca,cc,d⟩:=p;have hpv:j0 W va vc d.vec:=hp.vec;have hpc:gK W ca cc d.ab:=hp.ab;obtain⟨ua,uc,ea,ec,d2⟩:=q;have hqv:j0 W ua uc d2.vec:=hq.vec;have hqc:gK W ea ec d2.ab:=hq.ab;intro a hA;dsimp only at hl1 hl2 hl3 hl4 hA ⊢;refine rC 2 hA ?_;clear hA a;refine uB rfl hS ?_;clear hS;intro b2 w hS;refine uB rfl hS ?_;clear hS;intro b3 w hS;refine uO 6 ?_;refine u1 0 (aa rfl cw) ?_;refine u1 0 (ld rfl cW) ?_;refine u1 0 (ar rfl aE) ?_;refine u1 0 (aa rfl cw) ?_;refine u1 0 (ld rfl cW) ?_;refine u1 0 (ar rfl aE) ?_;refine aR 0 0 (aK rfl rfl) ?_ ?_
 ·intro h13;refine uO 19 ?_;refine aX ?_;refine⟨?_,hS.nil⟩;rw[decide_eq_false];intro h;rw[h]at h13;omega
 ·intro h13;refine uO 1 ?_;refine u1 0 (aa rfl bZ) ?_;refine u1 0 (ld rfl eM) ?_;refine u1 0 (ar rfl dm) ?_;refine u1 0 (aa rfl bZ) ?_;refine u1 0 (ld rfl eM) ?_;refine u1 0 (ar rfl dm) ?_;refine aR 0 0 (aK rfl rfl) ?_ ?_
  ·intro h21;refine uO 11 ?_;refine aX ?_;refine⟨?_,hS.nil⟩;rw[decide_eq_false];intro h;rw[h]at h21;omega
  ·intro h21;refine uO 13 ?_;intro a hA;refine wp_loop_ghost (fun (mm:Nat) a w=>∃(k:Nat),Ag a 59 [(2,.pointer (some ⟨b2,0,none⟩)),(3,.pointer (some ⟨b3,0,none⟩)),(5,.int .i64 ((k:Nat):Int))]∧Sat W w ([a8 b3 (.cells #[.slice ua d2.vec.length uc,.slice ea d2.ab.length ec] 63),a8 b2 (.cells #[.slice va d.vec.length vc,.slice ca d.ab.length cc] 63)])∧(k≤d.vec.length)∧(d.vec.take k=d2.vec.take k)∧mm=d.vec.length-k) d.vec.length ?_ ?_
   ·replace hA:=hA.kp [2,3,5] rfl;exact⟨0,hA,hS,(by omega),(by rfl),by omega⟩
   intro m a w hI;clear hS hA;obtain⟨k,hA,hS,hk,he,rfl⟩:=hI;refine rC 4 hA ?_;clear hA a;refine u1 0 (aa rfl cw) ?_;refine u1 0 (ld rfl cW) ?_;refine u1 0 (ar rfl aE) ?_;refine aR 0 0 (aw rfl rfl) ?_ ?_
   ·intro h27;refine uO 8 ?_;intro a hA;refine cF (fun w'=>Sat _ w' _) (by kernel_rfl) (by kernel_rfl) hS.drew ?_;refine Q1 0 hA (fun w hS=>(aa (hA.ev rfl) cw)) ?_;clear hA a;refine br 1 (fun w hS=>(ld rfl cW)) ?_;obtain⟨va_p,rfl⟩:∃q,va=some q:=(hpv.sat hS).av (by omega);obtain⟨x,hx⟩:∃zz_,d.vec[k]?=some zz_:=⟨_,List.getElem?_eq_getElem (by omega)⟩;refine br 0 (fun w hS=>(aj rfl rfl aE fQ (by omega) (by omega))) ?_;refine br 0 (fun w hS=>(aq rfl aQ (gb (hpv.sat hS) (bu hx)))) ?_;refine br 0 (fun w hS=>(aa rfl cw)) ?_;refine br 1 (fun w hS=>(ld rfl cW)) ?_;obtain⟨ua_p,rfl⟩:∃q,ua=some q:=(hqv.sat hS).av (by omega);obtain⟨y,hy⟩:∃zz_,d2.vec[k]?=some zz_:=⟨_,List.getElem?_eq_getElem (by omega)⟩
    refine br 0 (fun w hS=>(aj rfl rfl aE fQ (by omega) (by omega))) ?_;refine br 0 (fun w hS=>(aq rfl aQ (gb (hqv.sat hS) (bu hy)))) ?_;intro a hA;refine K.se hA rfl rfl rfl (fun w hS=>(aK (hA.ev rfl) (hA.ev rfl))) ?_ ?_
    ·clear hA a;intro h40;intro a hA;refine wpQuiet_nil ?_;clear hS;intro w hS;refine rE 13 hA ?_;clear hA a;refine aX ?_;refine⟨?_,hS.nil⟩;rw[decide_eq_false];intro h;rw[h,hy]at hx;cases hx;omega
    ·clear hA a;intro h40;intro a hA;refine wpQuiet_nil ?_;clear hS;intro w hS;refine rE 7 hA ?_;clear hA a;refine u1 2 (ah rfl rfl (by omega) (by omega)) ?_;intro a hA;replace hA:=hA.kp [2,3,5] rfl;refine⟨d.vec.length-(k+1),by omega,k+1,hA,hS,by omega,?_,rfl⟩;rw[aD hx,aD hy,he,show x=y from by omega]
   ·intro h27;refine uO 8 ?_;intro a hA;replace hA:=hA.kp [2,3] rfl;refine rC 7 hA ?_;clear hA a;intro a hA;refine wp_loop_ghost (fun (mm:Nat) a w=>∃(m:Nat),Ag a 59 [(2,.pointer (some ⟨b2,0,none⟩)),(3,.pointer (some ⟨b3,0,none⟩)),(6,.int .i64 ((m:Nat):Int))]∧Sat W w ([a8 b3 (.cells #[.slice ua d2.vec.length uc,.slice ea d2.ab.length ec] 63),a8 b2 (.cells #[.slice va d.vec.length vc,.slice ca d.ab.length cc] 63)])∧(m≤d.ab.length)∧(d.ab.take m=d2.ab.take m)∧mm=d.ab.length-m) d.ab.length ?_ ?_
    ·replace hA:=hA.kp [2,3,6] rfl;exact⟨0,hA,hS,(by omega),(by rfl),by omega⟩
    intro m a w hI;clear hS hA;obtain⟨m,hA,hS,hm,hf,rfl⟩:=hI;refine rC 4 hA ?_;clear hA a;refine u1 0 (aa rfl bZ) ?_;refine u1 0 (ld rfl eM) ?_;refine u1 0 (ar rfl dm) ?_;refine aR 0 0 (aw rfl rfl) ?_ ?_
    ·intro h45;refine uO 8 ?_;intro a hA;refine cF (fun w'=>Sat _ w' _) (by kernel_rfl) (by kernel_rfl) hS.drew ?_;refine Q1 0 hA (fun w hS=>(aa (hA.ev rfl) bZ)) ?_;clear hA a;refine br 1 (fun w hS=>(ld rfl eM)) ?_;obtain⟨ca_p,rfl⟩:∃q,ca=some q:=(hpc.sat hS).av (by omega);obtain⟨s,hs⟩:∃zz_,d.ab[m]?=some zz_:=⟨_,List.getElem?_eq_getElem (by omega)⟩;refine br 0 (fun w hS=>(aj rfl rfl dm cA (by omega) (by omega))) ?_;refine br 0 (fun w hS=>(ad (cs:=gx s) rfl i6 cA (fun j u e=>bJ (hpc.sat hS) (dC hs j u e)))) ?_;refine br 0 (fun w hS=>(aa rfl bZ)) ?_;refine br 1 (fun w hS=>(ld rfl eM)) ?_;obtain⟨ea_p,rfl⟩:∃q,ea=some q:=(hqc.sat hS).av (by omega);obtain⟨t,ht⟩:∃zz_,d2.ab[m]?=some zz_:=⟨_,List.getElem?_eq_getElem (by omega)⟩
     refine br 0 (fun w hS=>(aj rfl rfl dm cA (by omega) (by omega))) ?_;refine br 0 (fun w hS=>(ad (cs:=gx t) rfl i6 cA (fun j u e=>bJ (hqc.sat hS) (dC ht j u e)))) ?_;intro a hA;refine K.se hA rfl rfl rfl (fun w hS=>(xk (hA.ev rfl) (hA.ev rfl) GS Hb)) ?_ ?_
     ·clear hA a;intro h58;intro a hA;refine wpQuiet_nil ?_;clear hS;intro w hS;refine rE 13 hA ?_;clear hA a;refine aX ?_;refine⟨?_,hS.nil⟩;rw[decide_eq_false];intro h;rw[h,ht]at hs;cases hs;simp at h58
     ·clear hA a;intro h58;intro a hA;refine wpQuiet_nil ?_;clear hS;intro w hS;refine rE 7 hA ?_;clear hA a;refine u1 2 (ah rfl rfl (by omega) (by omega)) ?_;intro a hA;replace hA:=hA.kp [2,3,6] rfl;refine⟨d.ab.length-(m+1),by omega,m+1,hA,hS,by omega,?_,rfl⟩;rw[aD hs,aD ht,hf,show s=t from by cases s;cases t;simpa using h58]
    ·intro h45;refine uO 14 ?_;refine aX ?_;rw[List.take_of_length_le (by omega),List.take_of_length_le (by omega)]at he hf;refine⟨?_,hS.nil⟩;rw[decide_eq_true];exact uV he hf
theorem fe (W:World)(p:PL)(hp:p.ok W)(hlc:p.d.ab.length≤10000000000)(hlv:p.d.vec.length≤1000000000000):Calls Tryz.prog 180 #[.agg #[.slice p.va p.d.vec.length p.vc,.slice p.ca p.d.ab.length p.cc]] W fun e w'=>e=.returned (.bool (bL p.d))∧Sat W w' []:=by
 refine enter Tryz.func180 rfl rfl rfl (.cons (i:=0) rfl .nil) ?_;have hS:=Sat.start W;refine uC 2 ?_;refine uB rfl hS ?_;clear hS;intro b1 w hS;refine uO 4 ?_;intro a hA;refine bh [3] hS (by kernel_rfl) ?_;replace hS:=hS.drew;refine X1 0 [] hA rfl (by exact⟨[],hS⟩) (fun w hT=>have hS:=hT.sat;(ad (cs:=[_,_]) (hA.ev rfl) a6 aC (by exact hS.ag (xs:=[_,_]) rfl))) ?_;clear hA a;refine cT 1 [] rfl (by exact⟨[],hS⟩) (fun w hT=>have hS:=hT.sat;(ad (cs:=[_,_]) rfl a6 aC (by exact hS.ag (xs:=[_,_]) rfl))) ?_;intro a hA;refine aG 2 (by kernel_rfl) ?_;refine eF hA rfl rfl B2 rfl (lB _ p (hp.sat hS) hlc) ?_;clear hA a;rintro e w ⟨q,rfl,hq,hT⟩;have hcn:=iL p.d;rw[←hq]at hcn;have hcv:=hcn.len;have hcl:=jA p.d;rw[←hq]at hcl;replace hS:Sat _ _ (_::_::_):=hS.ai hT;clear hT;refine⟨_,rfl,?_⟩;intro a hA
 refine⟨.inr fun _=>(by exact⟨[_,_],hS⟩),?_⟩;refine aG 3 (by kernel_rfl) ?_;refine eF hA rfl rfl Eb rfl (pQ _ p q (hp.sat hS) ⟨hS.rd,(hS.p 1).rd⟩ (by omega) (by omega) (by omega) (by omega)) ?_;clear hA a;rintro e w ⟨rfl,hT⟩;replace hS:Sat _ _ _:=hS.ai hT;clear hT;refine⟨_,rfl,?_⟩;intro a hA;refine⟨.inl rfl,?_⟩;refine rX [4] hA ?_;clear hA a;intro a hA;refine ak (by kernel_rfl) ?_ _;refine rE 2 hA ?_;clear hA a;refine aX ?_;refine⟨?_,hS.nil⟩
 congr 2
 unfold bL;rw[←hq,decide_eq_decide,eq_comm]
theorem y2 (W:World)(p:PL)(hp:p.ok W)(hlc:p.d.ab.length≤10000000000):Calls Tryz.prog 280 #[.agg #[.slice p.va p.d.vec.length p.vc,.slice p.ca p.d.ab.length p.cc]] W fun e w'=>e=.returned (.int .i64 (Bf p.d))∧Sat W w' []:=by
 refine enter Tryz.func280 rfl rfl rfl (.cons (i:=0) rfl .nil) ?_;have hS:=Sat.start W;refine uC 2 ?_;refine uB rfl hS ?_;clear hS;intro b1 w hS;refine uO 5 ?_;refine u1 0 (ad (cs:=[_,_]) rfl a6 aC (by exact hS.ag (xs:=[_,_]) rfl)) ?_;refine uF Bn rfl (oV _ p (hp.sat hS) hlc) ?_;rintro e w ⟨ls,rfl,hT1,hT⟩;replace hS:=hS.aB hT;clear hT;refine⟨_,rfl,?_⟩;refine uN wR hS ?_;clear hS;intro b3 w hS;intro a hA;refine FA (ls:=ls) (cs:=((List.replicate 16 (⟨none,0,[]⟩:Loc Int)).map Loc.v)) hA rfl rfl qX hT1.1 (by simp) hS ?_;clear hS;intro w hS;refine rO 14 hA ?_;clear hA a;intro a hA;refine wp_loop_ghost (fun (mm:Nat) a w=>∃(r:Nat),Ag a 42 [(3,.pointer (some ⟨b3,0,none⟩)),(4,.int .i64 (((List.range r).map fun r=>cY (aN p.d r)).sum)),(5,.int .i64 ((r:Nat):Int))]∧Sat W w ([dz 377 b3 ls,bt (ls.map (Loc.eZ 3))])∧(r≤16)∧mm=16-r) 16 ?_ ?_
 ·replace hA:=hA.kp [3,4,5] rfl;exact⟨0,hA,oO hS,(by omega),by omega⟩
 intro m a w hI;clear hS hA;obtain⟨r,hA,hS,hr,rfl⟩:=hI;refine rC 4 hA ?_;clear hA a;refine aR 0 0 (aw rfl rfl) ?_ ?_
 ·intro h10;obtain⟨lA,lc,hl⟩:=hT1.get (show r<16 by omega);have hpl:=jC (aN p.d r);have hcr:=bx p.d r;have hs1:=s6 p.d r;intro a hA
  have hnl:(aN p.d r).length≤100000000000:=by
   have:=cD (cM p.d r);have:=ek p.d r;unfold aN;omega
  refine rO 13 hA ?_;clear hA a;intro a hA;refine wp_loop_ghost (fun (mm:Nat) a w=>∃(q:Nat),Ag a 42 [(3,.pointer (some ⟨b3,0,none⟩)),(4,.int .i64 (((List.range r).map fun r=>cY (aN p.d r)).sum+cY ((aN p.d r).take q))),(5,.int .i64 ((r:Nat):Int)),(6,.int .i64 (((2 * q):Nat):Int))]∧Sat W w ([dz 377 b3 ls,bt (ls.map (Loc.eZ 3))])∧(q≤(aN p.d r).length)∧mm=(aN p.d r).length-q) (aN p.d r).length ?_ ?_
  ·replace hA:=hA.kp [3,4,5,6] rfl;rw[show ((List.range r).map fun r=>cY (aN p.d r)).sum=((List.range r).map fun r=>cY (aN p.d r)).sum+cY ((aN p.d r).take 0) from by rw[List.take_zero];show _=_+0;omega]at hA;exact⟨0,hA,hS,(by omega),by omega⟩
  intro m a w hI;clear hS hA;obtain⟨q,hA,hS,hq,rfl⟩:=hI;refine rC 4 hA ?_;clear hA a;refine u1 1 (ah rfl rfl (by omega) (by omega)) ?_;refine u1 0 (aa rfl ig) ?_;refine u1 0 (aW rfl rfl fA fS (by omega) (by omega)) ?_;refine u1 0 (aq rfl cW (ju hS hl)) ?_;refine u1 0 (ar rfl aE) ?_;refine aR 0 0 (aw rfl rfl) ?_ ?_
  ·intro h20;obtain⟨x,hx⟩:∃x,(aN p.d r)[q]?=some x:=⟨_,List.getElem?_eq_getElem (by omega)⟩;obtain⟨hx1,hx2⟩:=wM hx;have hxe:=hcr.each x (List.mem_of_getElem? hx);intro a hA;rw[dI]at hxe;have hs2:=su hcr q;obtain⟨lA_p,rfl⟩:∃q,lA=some q:=(show j0 _ lA lc (bI (aN p.d r)) from ko hS.qV hl).av (by omega);refine rO 7 hA ?_;clear hA a;intro a hA;refine cF (fun w'=>Sat _ w' _) (by kernel_rfl) (by kernel_rfl) hS.drew ?_;refine rQ 2 hA ?_;clear hA a
   refine br 0 (fun w hS=>(aa rfl ig)) ?_;refine br 0 (fun w hS=>(aW rfl rfl fA fS (by omega) (by omega))) ?_;refine br 1 (fun w hS=>(aq rfl cW (ju hS hl))) ?_;refine br 0 (fun w hS=>(ah rfl rfl (by omega) (by omega))) ?_;refine br 0 (fun w hS=>(aj rfl rfl aE fQ (by omega) (by omega))) ?_;refine br 1 (fun w hS=>(aq rfl aQ (gb (ko hS.qV hl) (bu hx2)))) ?_;refine br 0 (fun w hS=>(aa rfl ig)) ?_;refine br 0 (fun w hS=>(aW rfl rfl fA fS (by omega) (by omega))) ?_;refine br 1 (fun w hS=>(aq rfl cW (ju hS hl))) ?_;refine br 0 (fun w hS=>(aj rfl rfl aE fQ (by omega) (by omega))) ?_;refine br 0 (fun w hS=>(aq rfl aQ (gb (ko hS.qV hl) (bu hx1)))) ?_;refine br 0 (fun w hS=>(aZ rfl rfl (by omega) (by omega))) ?_;refine br 1 (fun w hS=>(ah rfl rfl (by omega) (by omega))) ?_
   intro a hA;refine wpQuiet_nil ?_;clear hS;intro w hS;refine rE 4 hA ?_;clear hA a;refine u1 2 (ah rfl rfl (by omega) (by omega)) ?_;intro a hA;replace hA:=hA.kp [3,4,5,6] rfl;rw[show ((List.range r).map fun r=>cY (aN p.d r)).sum+cY ((aN p.d r).take q)+(x.2+1-x.1)=((List.range r).map fun r=>cY (aN p.d r)).sum+cY ((aN p.d r).take (q+1)) from by rw[Cx (aN p.d) hx];omega]at hA;exact⟨(aN p.d r).length-(q+1),by omega,q+1,hA,hS,by omega,rfl⟩
  ·intro h20;refine uO 11 ?_;refine u1 2 (ah rfl rfl (by omega) (by omega)) ?_;intro a hA;replace hA:=hA.kp [3,4,5] rfl;have eg:(aN p.d r).take q=aN p.d r:=List.take_of_length_le (by omega);rw[eg,show aN p.d r=ax (cM p.d r) from rfl,←rZ]at hA;exact⟨16-(r+1),by omega,r+1,hA,hS,by omega,rfl⟩
 ·intro h10;obtain rfl:r=16:=by omega
  refine uO 14 ?_;intro a hA;replace hA:=hA.kp [2] rfl;refine rC 1 hA ?_;clear hA a;refine aX ?_;exact⟨rfl,hS.nil⟩
theorem iR (W:World)(p:PL)(hp:p.ok W)(hlc:p.d.ab.length≤10000000000):Calls Tryz.prog 261 #[.agg #[.slice p.va p.d.vec.length p.vc,.slice p.ca p.d.ab.length p.cc]] W fun e w'=>e=.returned (.bool (eE p.d))∧Sat W w' []:=by
 refine enter Tryz.func261 rfl rfl rfl (.cons (i:=0) rfl .nil) ?_;have hS:=Sat.start W;refine uC 2 ?_;refine uB rfl hS ?_;clear hS;intro b1 w hS;refine uO 5 ?_;refine u1 0 (ad (cs:=[_,_]) rfl a6 aC (by exact hS.ag (xs:=[_,_]) rfl)) ?_;refine uF IK rfl (y2 _ p (hp.sat hS) hlc) ?_;rintro e w ⟨rfl,hT2⟩;replace hS:Sat _ _ _:=hS.ai hT2;clear hT2;refine⟨_,rfl,?_⟩;refine u1 4 (bn rfl rfl) ?_;refine aX ?_;exact⟨rfl,hS.nil⟩
theorem Di (W:World)(A:Option Addr)(c:Nat)(xs:List gw)(hR:GR W A c xs)(hl:xs.length≤10000000000):Calls Tryz.prog 270 #[.slice A (xs).length c] W fun e w'=>∃q:PL,e=.returned (.agg #[.slice q.va q.d.vec.length q.vc,.slice q.ca q.d.ab.length q.cc])∧q.d=l0 xs∧Sat W w' [cI 3 q.va q.vc q.d.vec,bK 219 q.ca q.cc q.d.ab]:=by
 refine enter Tryz.func270 rfl rfl rfl (.cons (i:=0) rfl .nil) ?_;have hS:=Sat.start W;refine uC 2 ?_;refine uN dL hS ?_;clear hS;intro b2 w hS;refine uO 4 ?_;refine uN dL hS ?_;clear hS;intro b3 w hS;refine uO 9 ?_;intro a hA;refine wp_loop_ghost (fun (mm:Nat) a w=>∃(i:Nat) (Ac:Option Addr) (cc:Nat),Ag a 34 [(0,.slice A (xs).length c),(2,.pointer (some ⟨b2,0,none⟩)),(3,.pointer (some ⟨b3,0,none⟩)),(4,.int .i64 ((i:Nat):Int))]∧Sat W w ([a8 b3 (.cells #[.slice none 0 0,.slice Ac ((xs.take i).map fun d:gw=>(⟨d.rep,d.num,d.num⟩:aO)).length cc] 63),bK 219 Ac cc ((xs.take i).map fun d:gw=>(⟨d.rep,d.num,d.num⟩:aO)),a8 b2 (.cells #[.slice none 0 0,.slice none 0 0] 63)])∧(i≤xs.length)∧mm=xs.length-i) xs.length ?_ ?_
 ·replace hA:=hA.kp [0,2,3,4] rfl;exact⟨0,none,0,hA,((((hS.aY 219 3).p 2).p 1).p 2),(by omega),by omega⟩
 intro m a w hI;clear hS hA;obtain⟨i,Ac,cc,hA,hS,hi,rfl⟩:=hI;refine rC 5 hA ?_;clear hA a;refine u1 0 (ar rfl oA) ?_;refine aR 0 0 (aw rfl rfl) ?_ ?_
 ·intro h8;refine uO 7 ?_;intro a hA;refine bh [19,21] hS (by kernel_rfl) ?_;replace hS:=hS.drew;have hcl:((xs.take i).map fun d:gw=>(⟨d.rep,d.num,d.num⟩:aO)).length≤10000000000:=by rw[List.length_map,List.length_take];omega
  refine P1 0 [] hA rfl (fun w=>(aa (hA.ev rfl) bZ)) ?_;clear hA a;refine cT 1 [2,3] rfl (by exact⟨[],hS⟩) (fun w hT=>have hS:=hT.sat;(ld rfl eM)) ?_;obtain⟨A_p,rfl⟩:∃q,A=some q:=(hR.sat hS).av (by omega);obtain⟨x,hx⟩:∃zz_,xs[i]?=some zz_:=⟨_,List.getElem?_eq_getElem (by omega)⟩
  refine bz 4 [] rfl (fun w=>(aj rfl rfl oA dZ (by omega) (by omega))) ?_;refine bz 5 [] rfl (fun w=>(aA rfl bw)) ?_;refine cT 6 [7,8] rfl (by exact⟨[],hS⟩) (fun w hT=>have hS:=hT.sat;(aq rfl aQ (bJ (hR.sat hS) (sX hx 0 _ rfl)))) ?_;refine bz 9 [] rfl (fun w=>(aj rfl rfl oA dZ (by omega) (by omega))) ?_;refine bz 10 [] rfl (fun w=>(aA rfl bQ)) ?_;refine cT 11 [12,13] rfl (by exact⟨[],hS⟩) (fun w hT=>have hS:=hT.sat;(aq rfl aQ (bJ (hR.sat hS) (sX hx 1 _ rfl)))) ?_;refine bz 14 [] rfl (fun w=>(aj rfl rfl oA dZ (by omega) (by omega))) ?_;refine bz 15 [] rfl (fun w=>(aA rfl bQ)) ?_;refine cT 16 [] rfl (by exact⟨[],hS⟩) (fun w hT=>have hS:=hT.sat;(aq rfl aQ (bJ (hR.sat hS) (sX hx 1 _ rfl)))) ?_;intro a hA
  refine P1 17 [] hA rfl (fun w=>(aP hA rfl jy)) ?_;clear hA a;intro a hA;refine aG 18 (by kernel_rfl) ?_;refine vI (vss:=[[_,_,_]]) hA rfl rfl rfl dm o0 rfl rfl rfl (by simp) rfl hS ?_;clear hA a hS;intro A29 w hS;intro a hA;refine⟨.inr fun _=>(by exact⟨[_],hS⟩),?_⟩;refine aG 19 (by kernel_rfl) ?_;refine eA hA rfl rfl rfl rfl dm o0 rfl (hS.p 2) (hS.rd.src dm (by simp[Value.oneCell'])) (by omega) (by omega) ?_;clear hA a hS;intro A30 c30 w hc30 hS;intro a hA;refine⟨.inl rfl,?_⟩;refine P1 20 [] hA rfl (fun w=>(aa (hA.ev rfl) bZ)) ?_;clear hA a;intro a hA;refine aG 21 (by kernel_rfl) ?_;refine HF (cs':=[_,_]) hA rfl rfl rfl eM Ef rfl (hS.p 2) rfl rfl ?_;clear hS;intro w hS;refine⟨.inl rfl,?_⟩;refine ak (by kernel_rfl) ?_ _;refine rE 4 hA ?_;clear hA a;refine u1 2 (ah rfl rfl (by omega) (by omega)) ?_;intro a hA
  replace hA:=hA.kp [0,2,3,4] rfl;have ec:((xs.take i).map fun d:gw=>(⟨d.rep,d.num,d.num⟩:aO))++[(⟨x.rep,x.num,x.num⟩:aO)]=((xs.take (i+1)).map fun d:gw=>(⟨d.rep,d.num,d.num⟩:aO)):=by rw[aD hx,List.map_append];rfl
  have el:((xs.take i).map fun d:gw=>(⟨d.rep,d.num,d.num⟩:aO)).length+1=((xs.take (i+1)).map fun d:gw=>(⟨d.rep,d.num,d.num⟩:aO)).length:=by rw[←ec,List.length_append];rfl
  have hS2:=iH (hS.p 1) el (cs':=((xs.take (i+1)).map fun d:gw=>(⟨d.rep,d.num,d.num⟩:aO)).flatMap gx) (by rw[←ec,List.flatMap_append];simp[gx]);rw[el]at hS2;exact⟨xs.length-(i+1),by omega,i+1,_,_,hA,(((hS2.p 3).p 1).p 2).cZ [_,_,_],by omega,rfl⟩
 ·intro h8;obtain rfl:i=xs.length:=by omega
  intro a hA;rw[List.take_length]at hS;refine rO 10 hA ?_;clear hA a;refine u1 0 (ad (cs:=[_,_]) rfl a6 aC (by exact hS.ag (xs:=[_,_]) rfl)) ?_;refine uF B2 rfl (lB _ ⟨none,0,Ac,cc,⟨[],xs.map fun d:gw=>(⟨d.rep,d.num,d.num⟩:aO)⟩⟩ ⟨(hS.aY 3 1).rd,(hS.p 1).rd⟩ (by simp;omega)) ?_;rintro e w ⟨q,rfl,hq,hT⟩;replace hS:Sat _ _ (_::_::_):=hS.ai hT;clear hT;refine⟨_,rfl,?_⟩;refine uW (vs:=[_,_]) (cs':=[_,_]) rfl rfl aC (hS.p 4) ?_;clear hS;intro w hS;refine uO 3 ?_;intro a hA;refine gX hA rfl (dg (cs:=[_,_]) hA rfl a6 aC (by exact hS.ag (xs:=[_,_]) rfl)) ?_;exact⟨q,rfl,hq,oO ((hS.p 2).p 2)⟩
def KW (us vs:List Int)(i j:Nat)(x:Int):Prop:=(∀u,us[i]?=some u→x≤u)∧(∀v,vs[j]?=some v→x≤v)∧(us[i]?=some x∨vs[j]?=some x)
def H6 (us:List Int)(i i':Nat)(x:Int):Prop:=(us[i]?=some x∧i'=i+1)∨((∀u,us[i]?=some u→x<u)∧i'=i)
theorem xw {us:List Int}{i:Nat}{u:Int}{p:Prop}(h:us.length≤i)(e:us[i]?=some u):p:=by rw[List.getElem?_eq_none h]at e;cases e
theorem JN {us vs:List Int}{i j:Nat}{u:Int}(hu:us[i]?=some u)(h:vs.length≤j∨∃v,vs[j]?=some v∧u<v):KW us vs i j u:=by
 refine⟨fun z hz=>by rw[hu]at hz;cases hz;omega,fun z hz=>?_,.inl hu⟩;rcases h with h | ⟨v,hv,h⟩
 ·
  exact xw h hz
 ·
  rw[hv]at hz;cases hz;omega
theorem Io {us vs:List Int}{i j:Nat}{v:Int}(hv:vs[j]?=some v)(h:us.length≤i∨∃u,us[i]?=some u∧v≤u):KW us vs i j v:=by
 refine⟨fun z hz=>?_,fun z hz=>by rw[hv]at hz;cases hz;omega,.inr hv⟩;rcases h with h | ⟨u,hu,h⟩
 ·
  exact xw h hz
 ·
  rw[hu]at hz;cases hz;omega
theorem G5 {us vs:List Int}{i j:Nat}{x u:Int}(ha:x≤u)(hu:us[i]?=some u)(h:¬u=x):H6 us i i x:=.inr ⟨fun z hz=>by rw[hu]at hz;cases hz;omega,rfl⟩
theorem Em {us:List Int}{i:Nat}{x:Int}(h:us.length≤i):H6 us i i x:=.inr ⟨fun z hz=>xw h hz,rfl⟩
theorem Cd {f:Bool→Bool→Bool}{us vs:List Int}{i j i' j':Nat}{x:Int}(ha:KW us vs i j x)(hi:H6 us i i' x)(hj:H6 vs j j' x)(hil:i≤us.length)(hjl:j≤vs.length):i+j<i'+j'∧i'≤us.length∧j'≤vs.length∧
 comb f (us.drop i) (vs.drop j) (cx i) (cx j) (f (cx i) (cx j))=(if f (cx i') (cx j')=f (cx i) (cx j) then [] else [x])++comb f (us.drop i') (vs.drop j') (cx i') (cx j') (f (cx i') (cx j')):=by
 rcases hi with ⟨hu,rfl⟩ | ⟨hu,rfl⟩<;>rcases hj with ⟨hv,rfl⟩ | ⟨hv,rfl⟩
 ·
  have h1:=(List.getElem?_eq_some_iff.1 hu).1;have h2:=(List.getElem?_eq_some_iff.1 hv).1;exact⟨by omega,by omega,by omega,Kq hu hv⟩
 ·
  have h1:=(List.getElem?_eq_some_iff.1 hu).1;refine⟨by omega,by omega,by omega,K5 hu ?_⟩
  by_cases h:vs.length≤j'
  ·
   exact .inl h
  ·
   have e:=List.getElem?_eq_getElem (show j'<vs.length by omega);exact .inr ⟨_,e,hv _ e⟩
 ·
  have h2:=(List.getElem?_eq_some_iff.1 hv).1;refine⟨by omega,by omega,by omega,Le hv ?_⟩
  by_cases h:us.length≤i'
  ·
   exact .inl h
  ·
   have e:=List.getElem?_eq_getElem (show i'<us.length by omega);exact .inr ⟨_,e,hu _ e⟩
 ·
  rcases ha.2.2 with h | h
  ·
   have:=hu _ h;omega
  ·
   have:=hv _ h;omega
theorem vM (W:World)(A:Option Addr)(c:Nat)(us:List Int)(B:Option Addr)(d:Nat)(vs:List Int)(rule:Int)(hX:j0 W A c us)(hY:j0 W B d vs)(hlx:us.length≤1000000000000)(hly:vs.length≤1000000000000):Calls Tryz.prog 290 #[.slice A (us).length c,.slice B (vs).length d,.int .i64 rule] W fun e w'=>∃A' c',e=.returned (.slice A' (comb (cb rule) us vs false false false).length c')∧Sat W w' [cI 3 A' c' (comb (cb rule) us vs false false false)]:=by
 refine enter Tryz.func290 rfl rfl rfl (.cons (i:=0) rfl (.cons (i:=1) rfl (.cons (i:=2) rfl .nil))) ?_;have hS:=Sat.start W;refine uC 23 ?_;intro a hA;refine wp_loop_ghost (fun (mm:Nat) a w=>∃(i j:Nat) (out:List Int) (Ao:Option Addr) (co:Nat),Ag a 116 [(0,.slice A (us).length c),(1,.slice B (vs).length d),(2,.int .i64 rule),(7,.slice Ao (out).length co),(8,.int .i64 ((i:Nat):Int)),(9,.int .i64 ((j:Nat):Int)),(10,.bool (cb rule (cx i) (cx j)))]∧Sat W w ([cI 3 Ao co out])∧(i≤us.length)∧(j≤vs.length)∧(out.length≤i+j)∧(out++comb (cb rule) (us.drop i) (vs.drop j) (cx i) (cx j) (cb rule (cx i) (cx j))=comb (cb rule) us vs false false false)∧mm=us.length+vs.length-(i+j)) (us.length+vs.length) ?_ ?_
 ·replace hA:=hA.kp [0,1,2,7,8,9,10] rfl;rw[show Value.bool false=.bool (cb rule (cx 0) (cx 0)) from by rw[show cx 0=false from rfl,ve]]at hA;exact⟨0,0,[],none,0,hA,(hS.aY 3 1),(by omega),(by omega),(by simp),(by rw[show cx 0=false from rfl,ve];rfl),by omega⟩
 intro m a w hI;clear hS hA;obtain⟨i,j,out,Ao,co,hA,hS,hi,hj,hol,ho,rfl⟩:=hI;refine eD (fun a w=>Ag a 116 [(0,.slice A (us).length c),(1,.slice B (vs).length d),(2,.int .i64 rule),(7,.slice Ao (out).length co),(8,.int .i64 ((i:Nat):Int)),(9,.int .i64 ((j:Nat):Int)),(10,.bool (cb rule (cx i) (cx j)))]∧Sat W w ([cI 3 Ao co out])∧(i<us.length∨j<vs.length)) ?_ ?_
 ·refine rC 4 hA ?_;clear hA a;refine u1 0 (ar rfl aE) ?_;refine aR 0 0 (aw rfl rfl) ?_ ?_
  ·intro h18;refine uO 10 ?_;intro a hA;replace hA:=hA.kp [0,1,2,7,8,9,10] rfl
   first
    | exact⟨hA,hS,(by omega)⟩
  ·intro h18;refine uO 3 ?_;refine u1 0 (ar rfl aE) ?_;refine aR 0 0 (aw rfl rfl) ?_ ?_
   ·intro h23;refine uO 5 ?_;intro a hA;replace hA:=hA.kp [0,1,2,7,8,9,10] rfl
    first
     | exact⟨hA,hS,(by omega)⟩
   ·intro h23;refine uO 9 ?_;intro a hA;replace hA:=hA.kp [7] rfl;refine rC 7 hA ?_;clear hA a;refine aX ?_;rw[HQ (by omega) (by omega),List.append_nil]at ho;rw[←ho];exact⟨_,_,rfl,fz hS⟩
 ·intro a w hI;clear hS hA;obtain⟨hA,hS,hlt⟩:=hI;refine rC 6 hA ?_;clear hA a;intro a hA;refine eD (fun a w=>∃(at_:Int),Ag a 116 [(0,.slice A (us).length c),(1,.slice B (vs).length d),(2,.int .i64 rule),(7,.slice Ao (out).length co),(8,.int .i64 ((i:Nat):Int)),(9,.int .i64 ((j:Nat):Int)),(10,.bool (cb rule (cx i) (cx j))),(11,.int .i64 at_)]∧Sat W w ([cI 3 Ao co out])∧(KW us vs i j at_)) ?_ ?_
  ·refine rC 1 hA ?_;clear hA a;intro a hA;refine cF (fun w'=>Sat _ w' _) (by kernel_rfl) (by kernel_rfl) hS.drew ?_;refine rQ 2 hA ?_;clear hA a;refine br 0 (fun w hS=>(ar rfl aE)) ?_;intro a hA;refine K.se hA rfl rfl rfl (fun w hS=>(bn (hA.ev rfl) (hA.ev rfl))) ?_ ?_
   ·clear hA a;intro h28;refine uQ 17 ?_;intro a hA;refine wpQuiet_nil ?_;clear hS;intro w hS;refine rE 5 hA ?_;clear hA a;obtain⟨A_p,rfl⟩:∃q,A=some q:=(hX.sat hS).av (by omega);obtain⟨u,hu⟩:∃zz_,us[i]?=some zz_:=⟨_,List.getElem?_eq_getElem (by omega)⟩;refine u1 0 (aj rfl rfl aE fQ (by omega) (by omega)) ?_;refine u1 2 (aq rfl aQ (gb (hX.sat hS) (bu hu))) ?_;intro a hA;replace hA:=hA.kp [0,1,2,7,8,9,10,11] rfl;exact⟨u,hA,hS,JN hu (.inl (by omega))⟩
   ·clear hA a;intro h28;refine uQ 3 ?_;refine br 0 (fun w hS=>(ar rfl aE)) ?_;intro a hA;refine K.oY hA (ao hA rfl rfl rfl) rfl rfl (fun w hS=>(aw (hA.ev rfl) (hA.ev rfl))) ?_ ?_
    ·clear hA a;intro h33;refine uQ 3 ?_;obtain⟨A_p,rfl⟩:∃q,A=some q:=(hX.sat hS).av (by omega);obtain⟨u,hu⟩:∃zz_,us[i]?=some zz_:=⟨_,List.getElem?_eq_getElem (by omega)⟩;refine br 0 (fun w hS=>(aj rfl rfl aE fQ (by omega) (by omega))) ?_;refine br 2 (fun w hS=>(aq rfl aQ (gb (hX.sat hS) (bu hu)))) ?_;obtain⟨B_p,rfl⟩:∃q,B=some q:=(hY.sat hS).av (by omega);obtain⟨v,hv⟩:∃zz_,vs[j]?=some zz_:=⟨_,List.getElem?_eq_getElem (by omega)⟩;refine br 0 (fun w hS=>(aj rfl rfl aE fQ (by omega) (by omega))) ?_;refine br 0 (fun w hS=>(aq rfl aQ (gb (hY.sat hS) (bu hv)))) ?_;intro a hA;refine K.oY hA (ao hA rfl rfl rfl) rfl rfl (fun w hS=>(aw (hA.ev rfl) (hA.ev rfl))) ?_ ?_
     ·clear hA a;intro h43;refine uQ 2 ?_;intro a hA;refine wpQuiet_nil ?_;clear hS;intro w hS;refine rE 5 hA ?_;clear hA a;refine u1 0 (aj rfl rfl aE fQ (by omega) (by omega)) ?_;refine u1 2 (aq rfl aQ (gb (hX.sat hS) (bu hu))) ?_;intro a hA;replace hA:=hA.kp [0,1,2,7,8,9,10,11] rfl;exact⟨u,hA,hS,JN hu (.inr ⟨v,hv,by omega⟩)⟩
     ·clear hA a;intro h43;refine uQ 2 ?_;intro a hA;refine wpQuiet_nil ?_;clear hS;intro w hS;refine rE 5 hA ?_;clear hA a;refine u1 0 (aj rfl rfl aE fQ (by omega) (by omega)) ?_;refine u1 2 (aq rfl aQ (gb (hY.sat hS) (bu hv))) ?_;intro a hA;replace hA:=hA.kp [0,1,2,7,8,9,10,11] rfl;exact⟨v,hA,hS,Io hv (.inr ⟨u,hu,by omega⟩)⟩
    ·clear hA a;intro h33;refine uQ 12 ?_;intro a hA;refine wpQuiet_nil ?_;clear hS;intro w hS;refine rE 5 hA ?_;clear hA a;obtain⟨B_p,rfl⟩:∃q,B=some q:=(hY.sat hS).av (by omega);obtain⟨v,hv⟩:∃zz_,vs[j]?=some zz_:=⟨_,List.getElem?_eq_getElem (by omega)⟩;refine u1 0 (aj rfl rfl aE fQ (by omega) (by omega)) ?_;refine u1 2 (aq rfl aQ (gb (hY.sat hS) (bu hv))) ?_;intro a hA;replace hA:=hA.kp [0,1,2,7,8,9,10,11] rfl;exact⟨v,hA,hS,Io hv (.inl (by omega))⟩
  ·intro a w hI;clear hS hA;obtain⟨at_,hA,hS,hat⟩:=hI;refine eD (fun a w=>∃(i':Nat),Ag a 116 [(0,.slice A (us).length c),(1,.slice B (vs).length d),(2,.int .i64 rule),(7,.slice Ao (out).length co),(8,.int .i64 ((i':Nat):Int)),(9,.int .i64 ((j:Nat):Int)),(10,.bool (cb rule (cx i) (cx j))),(11,.int .i64 at_)]∧Sat W w ([cI 3 Ao co out])∧(H6 us i i' at_)) ?_ ?_
   ·refine rC 4 hA ?_;clear hA a;refine u1 0 (ar rfl aE) ?_;refine aR 0 0 (aw rfl rfl) ?_ ?_
    ·intro h57;refine uO 3 ?_;obtain⟨A_p,rfl⟩:∃q,A=some q:=(hX.sat hS).av (by omega);obtain⟨u,hu⟩:∃zz_,us[i]?=some zz_:=⟨_,List.getElem?_eq_getElem (by omega)⟩;refine u1 0 (aj rfl rfl aE fQ (by omega) (by omega)) ?_;refine u1 1 (aq rfl aQ (gb (hX.sat hS) (bu hu))) ?_;refine aR 0 0 (bn rfl rfl) ?_ ?_
     ·intro h64;refine uO 6 ?_;refine u1 2 (ah rfl rfl (by omega) (by omega)) ?_;intro a hA;replace hA:=hA.kp [0,1,2,7,8,9,10,11] rfl;exact⟨i+1,hA,hS,.inl ⟨by rw[←h64];exact hu,rfl⟩⟩
     ·intro h64;refine uO 5 ?_;intro a hA;replace hA:=hA.kp [0,1,2,7,8,9,10,11] rfl;exact⟨i,hA,hS,G5 (vs:=vs) (j:=j) (hat.1 u hu) hu h64⟩
    ·intro h57;refine uO 12 ?_;intro a hA;replace hA:=hA.kp [0,1,2,7,8,9,10,11] rfl;exact⟨i,hA,hS,Em (by omega)⟩
   ·intro a w hI;clear hS hA;obtain⟨i',hA,hS,hmi⟩:=hI;refine eD (fun a w=>∃(j':Nat),Ag a 116 [(0,.slice A (us).length c),(1,.slice B (vs).length d),(2,.int .i64 rule),(7,.slice Ao (out).length co),(8,.int .i64 ((i':Nat):Int)),(9,.int .i64 ((j':Nat):Int)),(10,.bool (cb rule (cx i) (cx j))),(11,.int .i64 at_)]∧Sat W w ([cI 3 Ao co out])∧(H6 vs j j' at_)) ?_ ?_
    ·refine rC 4 hA ?_;clear hA a;refine u1 0 (ar rfl aE) ?_;refine aR 0 0 (aw rfl rfl) ?_ ?_
     ·intro h71;refine uO 3 ?_;obtain⟨B_p,rfl⟩:∃q,B=some q:=(hY.sat hS).av (by omega);obtain⟨v,hv⟩:∃zz_,vs[j]?=some zz_:=⟨_,List.getElem?_eq_getElem (by omega)⟩;refine u1 0 (aj rfl rfl aE fQ (by omega) (by omega)) ?_;refine u1 1 (aq rfl aQ (gb (hY.sat hS) (bu hv))) ?_;refine aR 0 0 (bn rfl rfl) ?_ ?_
      ·intro h78;refine uO 6 ?_;refine u1 2 (ah rfl rfl (by omega) (by omega)) ?_;intro a hA;replace hA:=hA.kp [0,1,2,7,8,9,10,11] rfl;exact⟨j+1,hA,hS,.inl ⟨by rw[←h78];exact hv,rfl⟩⟩
      ·intro h78;refine uO 5 ?_;intro a hA;replace hA:=hA.kp [0,1,2,7,8,9,10,11] rfl;exact⟨j,hA,hS,G5 (vs:=us) (j:=i) (hat.2.1 v hv) hv h78⟩
     ·intro h71;refine uO 12 ?_;intro a hA;replace hA:=hA.kp [0,1,2,7,8,9,10,11] rfl;exact⟨j,hA,hS,Em (by omega)⟩
    ·intro a w hI;clear hS hA;obtain⟨j',hA,hS,hmj⟩:=hI;obtain⟨hm,hi2,hj2,hrel⟩:=Cd (f:=cb rule) hat hmi hmj hi hj;refine zA (fun a w=>Ag a 116 [(0,.slice A (us).length c),(1,.slice B (vs).length d),(2,.int .i64 rule),(7,.slice Ao (out).length co),(8,.int .i64 ((i':Nat):Int)),(9,.int .i64 ((j':Nat):Int)),(10,.bool (cb rule (cx i) (cx j))),(11,.int .i64 at_),(14,.bool (cb rule (cx i') (cx j')))]∧Sat W w ([cI 3 Ao co out])) ?_ ?_
     ·refine rC 2 hA ?_;clear hA a;refine u1 0 (ib rfl rfl (by omega) (by omega)) ?_;refine aR 0 0 (bn rfl rfl) ?_ ?_
      ·intro h84;refine uO 1 ?_;refine u1 0 (ib rfl rfl (by omega) (by omega)) ?_;refine aR 0 0 (bn rfl rfl) ?_ ?_
       ·intro h87;refine uO 3 ?_;refine uC 2 ?_;refine aR 0 0 (bn rfl rfl) ?_ ?_
        ·intro h89;refine uO 19 ?_;intro a hA;replace hA:=hA.kp [0,1,2,7,8,9,10,11,14] rfl;have ho1:cx i'=true:=by unfold cx;rw[decide_eq_true (by omega)]
         have ho2:cx j'=true:=by unfold cx;rw[decide_eq_true (by omega)]
         have hnow:cb rule (cx i') (cx j')=true:=by rw[ho1,ho2];unfold cb;simp<;>omega
         rw[show Value.bool true=.bool (cb rule (cx i') (cx j')) from by rw[hnow]<;>rfl]at hA;exact⟨hA,hS⟩
        ·intro h89;refine uO 8 ?_;refine aR 0 0 (bn rfl rfl) ?_ ?_
         ·intro h98;refine uO 5 ?_;refine u1 4 (aM rfl) ?_;intro a hA;replace hA:=hA.kp [0,1,2,7,8,9,10,11,14] rfl;have ho1:cx i'=true:=by unfold cx;rw[decide_eq_true (by omega)]
          have ho2:cx j'=true:=by unfold cx;rw[decide_eq_true (by omega)]
          have hnow:cb rule (cx i') (cx j')=false:=by rw[ho1,ho2];unfold cb;simp<;>omega
          rw[show Value.bool (!true)=.bool (cb rule (cx i') (cx j')) from by rw[hnow]<;>rfl]at hA;exact⟨hA,hS⟩
         ·intro h98;refine uO 10 ?_;intro a hA;replace hA:=hA.kp [0,1,2,7,8,9,10,11,14] rfl;have ho1:cx i'=true:=by unfold cx;rw[decide_eq_true (by omega)]
          have ho2:cx j'=true:=by unfold cx;rw[decide_eq_true (by omega)]
          have hnow:cb rule (cx i') (cx j')=false:=by rw[ho1,ho2];unfold cb;simp<;>omega
          rw[show Value.bool false=.bool (cb rule (cx i') (cx j')) from by rw[hnow]<;>rfl]at hA;exact⟨hA,hS⟩
       ·intro h87;refine uO 3 ?_;refine uC 2 ?_;refine aR 0 0 (bn rfl rfl) ?_ ?_
        ·intro h89;refine uO 8 ?_;refine aR 0 0 (bn rfl rfl) ?_ ?_
         ·intro h98;intro a hA;exfalso;omega
         ·intro h98;refine uO 10 ?_;intro a hA;replace hA:=hA.kp [0,1,2,7,8,9,10,11,14] rfl;have ho1:cx i'=true:=by unfold cx;rw[decide_eq_true (by omega)]
          have ho2:cx j'=false:=by unfold cx;rw[decide_eq_false (by omega)]
          have hnow:cb rule (cx i') (cx j')=false:=by rw[ho1,ho2];unfold cb;simp<;>omega
          rw[show Value.bool false=.bool (cb rule (cx i') (cx j')) from by rw[hnow]<;>rfl]at hA;exact⟨hA,hS⟩
        ·intro h89;refine uO 8 ?_;refine aR 0 0 (bn rfl rfl) ?_ ?_
         ·intro h98;refine uO 5 ?_;refine u1 4 (aM rfl) ?_;intro a hA;replace hA:=hA.kp [0,1,2,7,8,9,10,11,14] rfl;have ho1:cx i'=true:=by unfold cx;rw[decide_eq_true (by omega)]
          have ho2:cx j'=false:=by unfold cx;rw[decide_eq_false (by omega)]
          have hnow:cb rule (cx i') (cx j')=true:=by rw[ho1,ho2];unfold cb;simp<;>omega
          rw[show Value.bool (!false)=.bool (cb rule (cx i') (cx j')) from by rw[hnow]<;>rfl]at hA;exact⟨hA,hS⟩
         ·intro h98;refine uO 10 ?_;intro a hA;replace hA:=hA.kp [0,1,2,7,8,9,10,11,14] rfl;have ho1:cx i'=true:=by unfold cx;rw[decide_eq_true (by omega)]
          have ho2:cx j'=false:=by unfold cx;rw[decide_eq_false (by omega)]
          have hnow:cb rule (cx i') (cx j')=false:=by rw[ho1,ho2];unfold cb;simp<;>omega
          rw[show Value.bool false=.bool (cb rule (cx i') (cx j')) from by rw[hnow]<;>rfl]at hA;exact⟨hA,hS⟩
      ·intro h84;refine uO 1 ?_;refine u1 0 (ib rfl rfl (by omega) (by omega)) ?_;refine aR 0 0 (bn rfl rfl) ?_ ?_
       ·intro h87;refine uO 3 ?_;refine uC 2 ?_;refine aR 0 0 (bn rfl rfl) ?_ ?_
        ·intro h89;refine uO 8 ?_;refine aR 0 0 (bn rfl rfl) ?_ ?_
         ·intro h98;intro a hA;exfalso;omega
         ·intro h98;refine uO 10 ?_;intro a hA;replace hA:=hA.kp [0,1,2,7,8,9,10,11,14] rfl;have ho1:cx i'=false:=by unfold cx;rw[decide_eq_false (by omega)]
          have ho2:cx j'=true:=by unfold cx;rw[decide_eq_true (by omega)]
          have hnow:cb rule (cx i') (cx j')=false:=by rw[ho1,ho2];unfold cb;simp<;>omega
          rw[show Value.bool false=.bool (cb rule (cx i') (cx j')) from by rw[hnow]<;>rfl]at hA;exact⟨hA,hS⟩
        ·intro h89;refine uO 8 ?_;refine aR 0 0 (bn rfl rfl) ?_ ?_
         ·intro h98;refine uO 10 ?_;intro a hA;replace hA:=hA.kp [0,1,2,7,8,9,10,11,14] rfl;have ho1:cx i'=false:=by unfold cx;rw[decide_eq_false (by omega)]
          have ho2:cx j'=true:=by unfold cx;rw[decide_eq_true (by omega)]
          have hnow:cb rule (cx i') (cx j')=false:=by rw[ho1,ho2];unfold cb;simp<;>omega
          rw[show Value.bool false=.bool (cb rule (cx i') (cx j')) from by rw[hnow]<;>rfl]at hA;exact⟨hA,hS⟩
         ·intro h98;refine uO 10 ?_;intro a hA;replace hA:=hA.kp [0,1,2,7,8,9,10,11,14] rfl;have ho1:cx i'=false:=by unfold cx;rw[decide_eq_false (by omega)]
          have ho2:cx j'=true:=by unfold cx;rw[decide_eq_true (by omega)]
          have hnow:cb rule (cx i') (cx j')=false:=by rw[ho1,ho2];unfold cb;simp<;>omega
          rw[show Value.bool false=.bool (cb rule (cx i') (cx j')) from by rw[hnow]<;>rfl]at hA;exact⟨hA,hS⟩
       ·intro h87;refine uO 3 ?_;refine uC 2 ?_;refine aR 0 0 (bn rfl rfl) ?_ ?_
        ·intro h89;refine uO 8 ?_;refine aR 0 0 (bn rfl rfl) ?_ ?_
         ·intro h98;intro a hA;exfalso;omega
         ·intro h98;refine uO 10 ?_;intro a hA;replace hA:=hA.kp [0,1,2,7,8,9,10,11,14] rfl;have ho1:cx i'=false:=by unfold cx;rw[decide_eq_false (by omega)]
          have ho2:cx j'=false:=by unfold cx;rw[decide_eq_false (by omega)]
          have hnow:cb rule (cx i') (cx j')=false:=by rw[ho1,ho2];unfold cb;simp<;>omega
          rw[show Value.bool false=.bool (cb rule (cx i') (cx j')) from by rw[hnow]<;>rfl]at hA;exact⟨hA,hS⟩
        ·intro h89;refine uO 8 ?_;refine aR 0 0 (bn rfl rfl) ?_ ?_
         ·intro h98;refine uO 10 ?_;intro a hA;replace hA:=hA.kp [0,1,2,7,8,9,10,11,14] rfl;have ho1:cx i'=false:=by unfold cx;rw[decide_eq_false (by omega)]
          have ho2:cx j'=false:=by unfold cx;rw[decide_eq_false (by omega)]
          have hnow:cb rule (cx i') (cx j')=false:=by rw[ho1,ho2];unfold cb;simp<;>omega
          rw[show Value.bool false=.bool (cb rule (cx i') (cx j')) from by rw[hnow]<;>rfl]at hA;exact⟨hA,hS⟩
         ·intro h98;refine uO 10 ?_;intro a hA;replace hA:=hA.kp [0,1,2,7,8,9,10,11,14] rfl;have ho1:cx i'=false:=by unfold cx;rw[decide_eq_false (by omega)]
          have ho2:cx j'=false:=by unfold cx;rw[decide_eq_false (by omega)]
          have hnow:cb rule (cx i') (cx j')=false:=by rw[ho1,ho2];unfold cb;simp<;>omega
          rw[show Value.bool false=.bool (cb rule (cx i') (cx j')) from by rw[hnow]<;>rfl]at hA;exact⟨hA,hS⟩
     ·intro a w hI;clear hS hA;obtain⟨hA,hS⟩:=hI;refine rC 4 hA ?_;clear hA a;refine nb 0 0 (IZ rfl rfl LV) ?_ ?_
      ·intro h109;intro a hA;simp only[decide_eq_decide,decide_eq_true_eq,decide_eq_false_iff_not,Bool.not_eq_true',Bool.not_eq_false',bne_iff_ne,ne_eq,beq_iff_eq,Bool.not_eq_true,Bool.not_eq_false]at h109;refine rO 7 hA ?_;clear hA a;intro a hA;refine nC hA rfl rfl aE jQ rfl rfl rfl (by simp[Value.oneCell']) hS ?_;clear hA a hS;intro A112 w hS;intro a hA;refine dy hA rfl rfl rfl aE jQ rfl (hS.p 1) (hS.rd.src aE (by simp[Value.oneCell'])) (by omega) (by omega) ?_;clear hA a hS;intro A113 c113 w hc113 hS;refine uO 8 ?_;intro a hA;replace hA:=hA.kp [0,1,2,7,8,9,10] rfl;rw[if_neg (by intro hc;rw[←hc]at h109;simp at h109)]at hrel;rw[hrel,←List.append_assoc]at ho;have el:out.length+1=(out++[at_]).length:=by simp
       rw[el]at hA;exact⟨us.length+vs.length-(i'+j'),by omega,i',j',out++[at_],_,_,hA,fz (iH hS el (by simp)),by omega,by omega,by simp;omega,ho,rfl⟩
      ·intro h109;refine uO 5 ?_;intro a hA;replace hA:=hA.kp [0,1,2,7,8,9,10] rfl;rw[if_pos (by simpa using h109),List.nil_append]at hrel;rw[hrel]at ho;rw[←show cb rule (cx i') (cx j')=cb rule (cx i) (cx j) from by simpa using h109]at hA;exact⟨us.length+vs.length-(i'+j'),by omega,i',j',out,_,_,hA,hS,by omega,by omega,by omega,ho,rfl⟩
end Go.Proofs.YtkjabaihpkbfhaaGreat.Wk
namespace Go.Proofs.YtkjabaihpkbfhaaGreat.Wk
open Go Go.RowKit Go.Proofs.YtkjabaihpkbfhaaGreat Go.Proofs.YtkjabaihpkbfhaaGreat.K
def CO (F:Bool→Bool→Bool)(f g:Nat→List bo)(r k:Nat):List Int:=if k<r then comb F (bI (f k)) (bI (g k)) false false false else []
theorem E5 (F:Bool→Bool→Bool)(f g:Nat→List bo)(r:Nat):CO F f g (r+1) r=comb F (bI (f r)) (bI (g r)) false false false:=if_pos (Nat.lt_succ_self r)
theorem ER {F:Bool→Bool→Bool}{f g:Nat→List bo}{r k:Nat}(h:k≠r):CO F f g (r+1) k=CO F f g r k:=by
 unfold CO
 by_cases h1:k<r
 ·
  rw[if_pos h1,if_pos (by omega)]
 ·
  rw[if_neg h1,if_neg (by omega)]
theorem rK (a b:aL):(j4 a b).ab.length≤16 * (a.ab.length+b.ab.length+3):=
 qR (fun r _=>mT a b r) 16 (Nat.le_refl _)
theorem jJ (x:Int):cu [x]=x:=by
 unfold cu
 split
 ·
  rename_i h;rw[h];rfl
 ·
  rfl
theorem wz {x y:List aO}{k:Nat}(h1:k≤x.length)(h2:k≤y.length)(h:x.length≤k∨y.length≤k):dj (x.drop k) (y.drop k)=gr (x.length:Int) (y.length:Int):=by
 rcases Nat.lt_or_ge k x.length with hx | hx
 ·
  have hy:y.length≤k:=by omega
  rw[List.drop_of_length_le hy,List.drop_eq_getElem_cons hx,dj];unfold gr;rw[if_neg (by omega),if_pos (by omega)]
 ·
  rw[List.drop_of_length_le hx];rcases Nat.lt_or_ge k y.length with hy | hy
  ·
   rw[List.drop_eq_getElem_cons hy,dj];unfold gr;rw[if_pos (by omega)]
  ·
   rw[List.drop_of_length_le hy,dj];unfold gr;rw[if_neg (by omega),if_neg (by omega)]
end Go.Proofs.YtkjabaihpkbfhaaGreat.Wk
namespace Go.Proofs.YtkjabaihpkbfhaaGreat.Wk
open Go Go.RowKit Go.Proofs.YtkjabaihpkbfhaaGreat Go.Proofs.YtkjabaihpkbfhaaGreat.K Go.Proofs.YtkjabaihpkbfhaaGreat.T
theorem tw (W:World)(ls ms:List (Loc Int))(f g:Nat→List bo)(rule:Int)(hT1:dE ls (fun r=>bI (f r)))(hT2:dE ms (fun r=>bI (g r)))(hR1:∀(r:Nat) (l:Loc Int),ls[r]?=some l→j0 W l.a l.c l.xs)(hR2:∀(r:Nat) (l:Loc Int),ms[r]?=some l→j0 W l.a l.c l.xs)(hb1:∀r,r<16→(f r).length≤100000000000)(hb2:∀r,r<16→(g r).length≤100000000000):Calls Tryz.prog 282 #[.agg (ls.map Loc.v).toArray,.agg (ms.map Loc.v).toArray,.int .i64 rule] W fun e w'=>∃l3:List (Loc Int),e=.returned (.agg (l3.map Loc.v).toArray)∧dE l3 (fun r=>comb (cb rule) (bI (f r)) (bI (g r)) false false false)∧Sat W w' [bt (l3.map (Loc.eZ 3))]:=by
 refine enter Tryz.func282 rfl rfl rfl (.cons (i:=0) rfl (.cons (i:=1) rfl (.cons (i:=2) rfl .nil))) ?_;have hS:=Sat.start W;refine uC 2 ?_;refine uB rfl hS ?_;clear hS;intro b3 w hS;refine uB rfl hS ?_;clear hS;intro b4 w hS;refine uN wR hS ?_;clear hS;intro b6 w hS;refine uO 4 ?_;refine uN wR hS ?_;clear hS;intro b7 w hS;refine uO 9 ?_;intro a hA;refine wp_loop_ghost (fun (mm:Nat) a w=>∃(r:Nat) (l3:List (Loc Int)),Ag a 27 [(2,.int .i64 rule),(3,.pointer (some ⟨b3,0,none⟩)),(4,.pointer (some ⟨b4,0,none⟩)),(6,.pointer (some ⟨b6,0,none⟩)),(7,.pointer (some ⟨b7,0,none⟩)),(8,.int .i64 ((r:Nat):Int))]∧Sat W w ([dz 377 b7 l3,bt (l3.map (Loc.eZ 3)),a8 b6 (.cells ((List.replicate 16 (⟨none,0,[]⟩:Loc Int)).map Loc.v).toArray 377 (0,0)),dz 377 b4 ms,dz 377 b3 ls])∧(r≤16)∧(dE l3 (CO (cb rule) f g r))∧mm=16-r) 16 ?_ ?_
 ·replace hA:=hA.kp [2,3,4,6,7,8] rfl;have hS0:=k8 (Loc.eZ 3) hS (fun L' s=>s.aY 3 1) 16;have hS1:Sat W w [dz 377 b7 (List.replicate 16 (⟨none,0,[]⟩:Loc Int)),bt ((List.replicate 16 (⟨none,0,[]⟩:Loc Int)).map (Loc.eZ 3)),a8 b6 (.cells ((List.replicate 16 (⟨none,0,[]⟩:Loc Int)).map Loc.v).toArray 377 (0,0)),dz 377 b4 ms,dz 377 b3 ls]:=hS0.p 1;exact⟨0,_,hA,hS1,(by omega),(by exact kq.congr fun r hr=>by simp[CO]),by omega⟩
 intro m a w hI;clear hS hA;obtain⟨r,l3,hA,hS,hr,hT3,rfl⟩:=hI;refine rC 4 hA ?_;clear hA a;refine aR 0 0 (aw rfl rfl) ?_ ?_
 ·intro h10;obtain⟨lA,lc,hl1⟩:=hT1.get (show r<16 by omega);obtain⟨mA,mc,hl2⟩:=hT2.get (show r<16 by omega);obtain⟨nA,nc,hl3⟩:=hT3.get (show r<16 by omega);have hq1:j0 W lA lc (bI (f r)):=hR1 r _ hl1;have hq2:j0 W mA mc (bI (g r)):=hR2 r _ hl2;have hf1:=jC (f r);have hf2:=jC (g r);have hbb1:=hb1 r (by omega);have hbb2:=hb2 r (by omega);refine uO 7 ?_;intro a hA;refine bh [10,13] hS (by kernel_rfl) ?_;replace hS:=hS.drew;refine rX [0,1] hA ?_;clear hA a
  refine bz 2 [] rfl (fun w=>(aa rfl ig)) ?_;refine bz 3 [] rfl (fun w=>(aW rfl rfl fA fS (by omega) (by omega))) ?_;refine cT 4 [5] rfl (by exact⟨[],hS⟩) (fun w hT=>have hS:=hT.sat;(aq rfl cW (ju (hS.p 4) hl1))) ?_;refine bz 6 [] rfl (fun w=>(aa rfl ig)) ?_;refine bz 7 [] rfl (fun w=>(aW rfl rfl fA fS (by omega) (by omega))) ?_;refine cT 8 [9] rfl (by exact⟨[],hS⟩) (fun w hT=>have hS:=hT.sat;(aq rfl cW (ju (hS.p 3) hl2))) ?_;refine bz 11 [] rfl (fun w=>(aa rfl ig)) ?_;intro a hA;refine aG 10 (by kernel_rfl) ?_;refine eF hA rfl rfl KJ rfl (vM _ lA lc (bI (f r)) mA mc (bI (g r)) rule (hq1.sat hS) (hq2.sat hS) (by omega) (by omega)) ?_;clear hA a;rintro e w ⟨A23,c23,rfl,hT⟩;replace hS:=hS.aB hT;clear hT;refine⟨_,rfl,?_⟩;intro a hA;refine⟨.inl rfl,?_⟩
  refine P1 12 [] hA rfl (fun w=>(aW (hA.ev rfl) (hA.ev rfl) fA fS (by omega) (by omega))) ?_;clear hA a;intro a hA;refine aG 13 (by kernel_rfl) ?_;refine HD (i:=r) ⟨A23,c23,comb (cb rule) (bI (f r)) (bI (g r)) false false false⟩ hA rfl rfl (by simp) rfl rfl cW fS (hS.p 1) hl3 ?_;clear hS;intro w hS;refine⟨.inl rfl,?_⟩;refine ak (by kernel_rfl) ?_ _;refine rE 4 hA ?_;clear hA a;refine u1 2 (ah rfl rfl (by omega) (by omega)) ?_;intro a hA;replace hA:=hA.kp [2,3,4,6,7,8] rfl;have hS2:=((hS.p 2).dN (iP hl3)).drop;have hS3:=jH (f:=Loc.eZ 3) hl3 (l':=⟨A23,c23,comb (cb rule) (bI (f r)) (bI (g r)) false false false⟩) (((hS2.p 1).p 1).p 2);refine⟨16-(r+1),by omega,r+1,_,hA,hS3.p 1,by omega,?_,rfl⟩;exact hT3.set (E5 _ _ _ _).symm fun k hk hne=>ER hne
 ·intro h10;obtain rfl:r=16:=by omega
  refine uO 10 ?_;refine u1 0 (ad (cs:=l3.map Loc.v) rfl ye (by rw[List.length_map,hT3.1];exact qX) (kL hS)) ?_;intro a hA;refine FA (ls:=l3) (cs:=((List.replicate 16 (⟨none,0,[]⟩:Loc Int)).map Loc.v)) hA rfl rfl qX hT3.1 (by simp) (hS.p 2) ?_;clear hS;intro w hS;refine rO 3 hA ?_;clear hA a;intro a hA;refine gX hA rfl (dg (cs:=l3.map Loc.v) hA rfl ye (by rw[List.length_map,hT3.1];exact qX) (kL hS)) ?_;exact⟨l3,rfl,hT3.congr fun r hr=>if_pos hr,fz (hS.p 2)⟩
theorem xO (W:World)(p q:PL)(hp:p.ok W)(hq:q.ok W)(hlp:p.d.ab.length≤10000000000)(hlq:q.d.ab.length≤10000000000):Calls Tryz.prog 269 #[.agg #[.slice p.va p.d.vec.length p.vc,.slice p.ca p.d.ab.length p.cc],.agg #[.slice q.va q.d.vec.length q.vc,.slice q.ca q.d.ab.length q.cc]] W fun e w'=>∃x:PL,e=.returned (.agg #[.slice x.va x.d.vec.length x.vc,.slice x.ca x.d.ab.length x.cc])∧x.d=j4 p.d q.d∧Sat W w' [cI 3 x.va x.vc x.d.vec,bK 219 x.ca x.cc x.d.ab]:=by
 refine enter Tryz.func269 rfl rfl rfl (.cons (i:=0) rfl (.cons (i:=1) rfl .nil)) ?_;have hS:=Sat.start W;refine uC 2 ?_;refine uB rfl hS ?_;clear hS;intro b2 w hS;refine uB rfl hS ?_;clear hS;intro b3 w hS;refine uN dL hS ?_;clear hS;intro b4 w hS;refine uO 3 ?_;intro a hA;refine bh [3,4,5,6] hS (by kernel_rfl) ?_;replace hS:=hS.drew;refine X1 0 [] hA rfl (by exact⟨[],hS⟩) (fun w hT=>have hS:=hT.sat;(ad (cs:=[_,_]) (hA.ev rfl) a6 aC (by exact (hS.p 2).ag (xs:=[_,_]) rfl))) ?_;clear hA a;refine cT 2 [] rfl (by exact⟨[],hS⟩) (fun w hT=>have hS:=hT.sat;(ad (cs:=[_,_]) rfl a6 aC (by exact (hS.p 1).ag (xs:=[_,_]) rfl))) ?_;intro a hA;refine aG 1 (by kernel_rfl) ?_;refine eF hA rfl rfl Bn rfl (oV _ p (hp.sat hS) hlp) ?_;clear hA a;rintro e w ⟨ls,rfl,hT1,hT⟩;replace hS:=hS.aB hT;clear hT;refine⟨_,rfl,?_⟩;intro a hA
 refine⟨.inr fun _=>(by exact⟨[_],hS⟩),?_⟩;refine aG 3 (by kernel_rfl) ?_;refine eF hA rfl rfl Bn rfl (oV _ q (hq.sat hS) hlq) ?_;clear hA a;rintro e w ⟨ms,rfl,hT2,hT⟩;replace hS:=hS.aB hT;clear hT;refine⟨_,rfl,?_⟩;intro a hA;refine⟨.inl rfl,?_⟩;refine aG 4 (by kernel_rfl) ?_;refine eF hA rfl rfl I4 rfl (tw _ ls ms (aN p.d) (aN q.d) 2 hT1 hT2 (fun r l h=>ko (hS.p 1) h) (fun r l h=>ko hS h) (fun r hr=>by have:=cD (cM p.d r);have:=ek p.d r;unfold aN;omega) (fun r hr=>by have:=cD (cM q.d r);have:=ek q.d r;unfold aN;omega)) ?_;clear hA a;rintro e w ⟨ns,rfl,hT0,hT⟩;replace hS:=hS.aB hT;clear hT;have hT3:dE ns (fun r=>bI (ed (aN p.d r) (aN q.d r))):=hT0.congr fun r hr=>(by rw[Aw];exact AR (bx p.d r) (bx q.d r))
 refine⟨_,rfl,?_⟩;intro a hA;refine⟨.inl rfl,?_⟩;refine aG 5 (by kernel_rfl) ?_;refine eF hA rfl rfl G7 rfl (tQ _ ns (fun r=>ed (aN p.d r) (aN q.d r)) hT3 (fun r=>kF (bx p.d r) (bx q.d r)) (fun r l h=>ko hS h) (fun r hr=>by have:=mT p.d q.d r;omega)) ?_;clear hA a;rintro e w ⟨x,rfl,hx,hT⟩;replace hS:Sat _ _ (_::_::_):=hS.ai hT;clear hT;refine⟨_,rfl,?_⟩;intro a hA;refine⟨.inl rfl,?_⟩;refine aG 6 (by kernel_rfl) ?_;refine dq (vs:=[_,_]) (cs':=[_,_]) hA rfl rfl rfl aC (by simp[Value.oneCell']) (hS.p 5) rfl rfl ?_;clear hS;intro w hS;refine⟨.inl rfl,?_⟩;refine ak (by kernel_rfl) ?_ _;refine rE 2 hA ?_;clear hA a;intro a hA;refine gX hA rfl (dg (cs:=[_,_]) hA rfl a6 aC (by exact hS.ag (xs:=[_,_]) rfl)) ?_;exact⟨x,rfl,hx,oO ((hS.p 2).p 2)⟩
theorem pa (W:World)(p q:PL)(hp:p.ok W)(hq:q.ok W)(hlp:p.d.ab.length≤300000000)(hlq:q.d.ab.length≤300000000):Calls Tryz.prog 236 #[.agg #[.slice p.va p.d.vec.length p.vc,.slice p.ca p.d.ab.length p.cc],.agg #[.slice q.va q.d.vec.length q.vc,.slice q.ca q.d.ab.length q.cc]] W fun e w'=>e=.returned (.bool (ck p.d q.d))∧Sat W w' []:=by
 refine enter Tryz.func236 rfl rfl rfl (.cons (i:=0) rfl (.cons (i:=1) rfl .nil)) ?_;have hS:=Sat.start W;refine uC 2 ?_;refine uB rfl hS ?_;clear hS;intro b2 w hS;refine uB rfl hS ?_;clear hS;intro b3 w hS;refine uO 5 ?_;refine u1 0 (ad (cs:=[_,_]) rfl a6 aC (by exact (hS.p 1).ag (xs:=[_,_]) rfl)) ?_;refine u1 0 (ad (cs:=[_,_]) rfl a6 aC (by exact hS.ag (xs:=[_,_]) rfl)) ?_;refine uF Ih rfl (xO _ p q (hp.sat hS) (hq.sat hS) (by omega) (by omega)) ?_;rintro e w ⟨x,rfl,hx,hT⟩;replace hS:Sat _ _ (_::_::_):=hS.ai hT;clear hT;refine⟨_,rfl,?_⟩;refine uF yJ rfl (iR _ x ⟨hS.rd,(hS.p 1).rd⟩ (by rw[hx];have:=rK p.d q.d;omega)) ?_;rintro e w ⟨rfl,hT2⟩;replace hS:Sat _ _ _:=hS.ai hT2;clear hT2;refine⟨_,rfl,?_⟩;refine uO 4 ?_;refine aX ?_;refine⟨?_,hS.nil⟩;rw[hx,xJ]
theorem k9 (W:World)(p q:PL)(hp:p.ok W)(hq:q.ok W)(hlp:p.d.ab.length≤10000000000)(hlq:q.d.ab.length≤10000000000):Calls Tryz.prog 262 #[.agg #[.slice p.va p.d.vec.length p.vc,.slice p.ca p.d.ab.length p.cc],.agg #[.slice q.va q.d.vec.length q.vc,.slice q.ca q.d.ab.length q.cc]] W fun e w'=>e=.returned (.int .i64 (pG p.d q.d))∧Sat W w' []:=by
 refine enter Tryz.func262 rfl rfl rfl (.cons (i:=0) rfl (.cons (i:=1) rfl .nil)) ?_;have hS:=Sat.start W;refine uC 2 ?_;refine uB rfl hS ?_;clear hS;intro b2 w hS;refine uB rfl hS ?_;clear hS;intro b3 w hS;refine uO 5 ?_;refine u1 0 (ad (cs:=[_,_]) rfl a6 aC (by exact (hS.p 1).ag (xs:=[_,_]) rfl)) ?_;refine uF B2 rfl (lB _ p (hp.sat hS) hlp) ?_;rintro e w ⟨x,rfl,hx,hT⟩;obtain⟨xva,xvc,xca,xcc,xd⟩:=x;dsimp only at hx hT;have hcx:=iL p.d;rw[←hx]at hcx;have hlx:=jA p.d;rw[←hx]at hlx;have hxv:=hcx.len;dsimp only;replace hS:Sat _ _ (_::_::_):=hS.ai hT;clear hT;refine⟨_,rfl,?_⟩;refine uW (vs:=[_,_]) (cs':=[_,_]) rfl rfl aC (hS.p 3) ?_;clear hS;intro w hS;refine uO 4 ?_;refine u1 0 (ad (cs:=[_,_]) rfl a6 aC (by exact (hS.p 3).ag (xs:=[_,_]) rfl)) ?_;refine uF B2 rfl (lB _ q (hq.sat hS) hlq) ?_
 rintro e w ⟨y,rfl,hy,hT⟩;obtain⟨yva,yvc,yca,ycc,yd⟩:=y;dsimp only at hy hT;have hcy:=iL q.d;rw[←hy]at hcy;have hly:=jA q.d;rw[←hy]at hly;have hyv:=hcy.len;dsimp only;replace hS:Sat _ _ (_::_::_):=hS.ai hT;clear hT;refine⟨_,rfl,?_⟩;refine uW (vs:=[_,_]) (cs':=[_,_]) rfl rfl aC (hS.p 5) ?_;clear hS;intro w hS;refine uO 9 ?_;intro a hA;refine wp_loop_ghost (fun (mm:Nat) a w=>∃(r:Nat),Ag a 106 [(2,.pointer (some ⟨b2,0,none⟩)),(3,.pointer (some ⟨b3,0,none⟩)),(5,.int .i64 ((r:Nat):Int))]∧Sat W w ([a8 b3 (.cells #[.slice yva yd.vec.length yvc,.slice yca yd.ab.length ycc] 63),a8 b2 (.cells #[.slice xva xd.vec.length xvc,.slice xca xd.ab.length xcc] 63),cI 3 xva xvc xd.vec,bK 219 xca xcc xd.ab,cI 3 yva yvc yd.vec,bK 219 yca ycc yd.ab])∧(r≤16)∧(cu (((List.range 16).map fun r=>gr (ay xd.vec r) (ay yd.vec r)).take r)=0)∧mm=16-r) 16 ?_ ?_
 ·replace hA:=hA.kp [2,3,5] rfl;exact⟨0,hA,((((((hS.p 2).p 2).p 5).p 5).p 5).p 5),(by omega),(by rfl),by omega⟩
 intro m a w hI;clear hS hA;obtain⟨r,hA,hS,hr,he,rfl⟩:=hI;refine rC 4 hA ?_;clear hA a;refine aR 0 0 (aw rfl rfl) ?_ ?_
 ·intro h16;refine uO 17 ?_;refine u1 0 (aa rfl cw) ?_;refine u1 0 (ld rfl cW) ?_;refine u1 0 (ar rfl aE) ?_;refine aR 0 0 (aw rfl rfl) ?_ ?_
  ·intro h23;refine uO 4 ?_;refine u1 0 (aa rfl cw) ?_;refine u1 1 (ld rfl cW) ?_;obtain⟨xva_p,rfl⟩:∃q,xva=some q:=(hS.p 2).rd.av (by omega);obtain⟨v1,hv1⟩:∃zz_,xd.vec[r]?=some zz_:=⟨_,List.getElem?_eq_getElem (by omega)⟩;refine u1 0 (aj rfl rfl aE fQ (by omega) (by omega)) ?_;refine u1 7 (aq rfl aQ (gb (hS.p 2).rd (bu hv1))) ?_;refine u1 0 (aa rfl cw) ?_;refine u1 0 (ld rfl cW) ?_;refine u1 0 (ar rfl aE) ?_;refine aR 0 0 (aw rfl rfl) ?_ ?_
   ·intro h33;refine uO 4 ?_;refine u1 0 (aa rfl cw) ?_;refine u1 1 (ld rfl cW) ?_;obtain⟨yva_p,rfl⟩:∃q,yva=some q:=(hS.p 4).rd.av (by omega);obtain⟨v2,hv2⟩:∃zz_,yd.vec[r]?=some zz_:=⟨_,List.getElem?_eq_getElem (by omega)⟩;refine u1 0 (aj rfl rfl aE fQ (by omega) (by omega)) ?_;refine u1 7 (aq rfl aQ (gb (hS.p 4).rd (bu hv2))) ?_;refine aR 0 0 (aK rfl rfl) ?_ ?_
    ·intro h41;refine uO 7 ?_;refine uF sD rfl (gu _ _ _) ?_;rintro e w ⟨rfl,hT⟩;replace hS:Sat _ _ _:=hS.ai hT;clear hT;refine⟨_,rfl,?_⟩;refine uO 9 ?_;refine aX ?_;have hg:((List.range 16).map fun r=>gr (ay xd.vec r) (ay yd.vec r))[r]?=some (gr (ay xd.vec r) (ay yd.vec r)):=by rw[List.getElem?_map,List.getElem?_range (by omega)];rfl
     have hvx:=dt hv1;have hvy:=dt hv2;have hne:gr (ay xd.vec r) (ay yd.vec r)≠0:=by rw[hvx,hvy];exact j2 h41
     have hz:=ln hg he hne;refine⟨?_,hS.nil⟩;unfold pG rS;rw[←hx,←hy,cg,hz,if_neg hne,hvx,hvy]
    ·intro h41;refine uO 8 ?_;refine u1 2 (ah rfl rfl (by omega) (by omega)) ?_;intro a hA;replace hA:=hA.kp [2,3,5] rfl;have hg:((List.range 16).map fun r=>gr (ay xd.vec r) (ay yd.vec r))[r]?=some (gr (ay xd.vec r) (ay yd.vec r)):=by rw[List.getElem?_map,List.getElem?_range (by omega)];rfl
     have hvx:=dt hv1;have hvy:=dt hv2;exact⟨16-(r+1),by omega,r+1,hA,hS,by omega,kl hg he (by rw[hvx,hvy];exact eG.2 (by omega)),rfl⟩
   ·intro h33;refine uO 9 ?_;refine aR 0 0 (aK rfl rfl) ?_ ?_
    ·intro h41;refine uO 7 ?_;refine uF sD rfl (gu _ _ _) ?_;rintro e w ⟨rfl,hT⟩;replace hS:Sat _ _ _:=hS.ai hT;clear hT;refine⟨_,rfl,?_⟩;refine uO 9 ?_;refine aX ?_;have hg:((List.range 16).map fun r=>gr (ay xd.vec r) (ay yd.vec r))[r]?=some (gr (ay xd.vec r) (ay yd.vec r)):=by rw[List.getElem?_map,List.getElem?_range (by omega)];rfl
     have hvx:=dt hv1;have hvy:ay yd.vec r=0:=eB (by omega);have hne:gr (ay xd.vec r) (ay yd.vec r)≠0:=by rw[hvx,hvy];exact j2 h41
     have hz:=ln hg he hne;refine⟨?_,hS.nil⟩;unfold pG rS;rw[←hx,←hy,cg,hz,if_neg hne,hvx,hvy]
    ·intro h41;refine uO 8 ?_;refine u1 2 (ah rfl rfl (by omega) (by omega)) ?_;intro a hA;replace hA:=hA.kp [2,3,5] rfl;have hg:((List.range 16).map fun r=>gr (ay xd.vec r) (ay yd.vec r))[r]?=some (gr (ay xd.vec r) (ay yd.vec r)):=by rw[List.getElem?_map,List.getElem?_range (by omega)];rfl
     have hvx:=dt hv1;have hvy:ay yd.vec r=0:=eB (by omega);exact⟨16-(r+1),by omega,r+1,hA,hS,by omega,kl hg he (by rw[hvx,hvy];exact eG.2 (by omega)),rfl⟩
  ·intro h23;refine uO 9 ?_;refine u1 0 (aa rfl cw) ?_;refine u1 0 (ld rfl cW) ?_;refine u1 0 (ar rfl aE) ?_;refine aR 0 0 (aw rfl rfl) ?_ ?_
   ·intro h33;refine uO 4 ?_;refine u1 0 (aa rfl cw) ?_;refine u1 1 (ld rfl cW) ?_;obtain⟨yva_p,rfl⟩:∃q,yva=some q:=(hS.p 4).rd.av (by omega);obtain⟨v2,hv2⟩:∃zz_,yd.vec[r]?=some zz_:=⟨_,List.getElem?_eq_getElem (by omega)⟩;refine u1 0 (aj rfl rfl aE fQ (by omega) (by omega)) ?_;refine u1 7 (aq rfl aQ (gb (hS.p 4).rd (bu hv2))) ?_;refine aR 0 0 (aK rfl rfl) ?_ ?_
    ·intro h41;refine uO 7 ?_;refine uF sD rfl (gu _ _ _) ?_;rintro e w ⟨rfl,hT⟩;replace hS:Sat _ _ _:=hS.ai hT;clear hT;refine⟨_,rfl,?_⟩;refine uO 9 ?_;refine aX ?_;have hg:((List.range 16).map fun r=>gr (ay xd.vec r) (ay yd.vec r))[r]?=some (gr (ay xd.vec r) (ay yd.vec r)):=by rw[List.getElem?_map,List.getElem?_range (by omega)];rfl
     have hvx:ay xd.vec r=0:=eB (by omega);have hvy:=dt hv2;have hne:gr (ay xd.vec r) (ay yd.vec r)≠0:=by rw[hvx,hvy];exact j2 h41
     have hz:=ln hg he hne;refine⟨?_,hS.nil⟩;unfold pG rS;rw[←hx,←hy,cg,hz,if_neg hne,hvx,hvy]
    ·intro h41;refine uO 8 ?_;refine u1 2 (ah rfl rfl (by omega) (by omega)) ?_;intro a hA;replace hA:=hA.kp [2,3,5] rfl;have hg:((List.range 16).map fun r=>gr (ay xd.vec r) (ay yd.vec r))[r]?=some (gr (ay xd.vec r) (ay yd.vec r)):=by rw[List.getElem?_map,List.getElem?_range (by omega)];rfl
     have hvx:ay xd.vec r=0:=eB (by omega);have hvy:=dt hv2;exact⟨16-(r+1),by omega,r+1,hA,hS,by omega,kl hg he (by rw[hvx,hvy];exact eG.2 (by omega)),rfl⟩
   ·intro h33;refine uO 9 ?_;refine u1 8 (dP (aK rfl rfl) (by omega)) ?_;refine u1 2 (ah rfl rfl (by omega) (by omega)) ?_;intro a hA;replace hA:=hA.kp [2,3,5] rfl;have hg:((List.range 16).map fun r=>gr (ay xd.vec r) (ay yd.vec r))[r]?=some (gr (ay xd.vec r) (ay yd.vec r)):=by rw[List.getElem?_map,List.getElem?_range (by omega)];rfl
    have hvx:ay xd.vec r=0:=eB (by omega);have hvy:ay yd.vec r=0:=eB (by omega);exact⟨16-(r+1),by omega,r+1,hA,hS,by omega,kl hg he (by rw[hvx,hvy];exact eG.2 (by omega)),rfl⟩
 ·intro h16;refine uO 15 ?_;intro a hA;refine wp_loop_ghost (fun (mm:Nat) a w=>∃(k:Nat),Ag a 106 [(2,.pointer (some ⟨b2,0,none⟩)),(3,.pointer (some ⟨b3,0,none⟩)),(8,.int .i64 ((k:Nat):Int))]∧Sat W w ([a8 b3 (.cells #[.slice yva yd.vec.length yvc,.slice yca yd.ab.length ycc] 63),a8 b2 (.cells #[.slice xva xd.vec.length xvc,.slice xca xd.ab.length xcc] 63),cI 3 xva xvc xd.vec,bK 219 xca xcc xd.ab,cI 3 yva yvc yd.vec,bK 219 yca ycc yd.ab])∧(k≤xd.ab.length)∧(k≤yd.ab.length)∧(dj (xd.ab.drop k) (yd.ab.drop k)=dj xd.ab yd.ab)∧mm=xd.ab.length-k) xd.ab.length ?_ ?_
  ·replace hA:=hA.kp [2,3,8] rfl;exact⟨0,hA,hS,(by omega),(by omega),(by rfl),by omega⟩
  intro m a w hI;clear hS hA;obtain⟨k,hA,hS,hk1,hk2,hc,rfl⟩:=hI;refine rC 4 hA ?_;clear hA a;refine u1 0 (aa rfl bZ) ?_;refine u1 0 (ld rfl eM) ?_;refine u1 0 (ar rfl dm) ?_;refine aR 0 0 (aw rfl rfl) ?_ ?_
  ·intro h49;refine uO 2 ?_;refine u1 0 (aa rfl bZ) ?_;refine u1 0 (ld rfl eM) ?_;refine u1 0 (ar rfl dm) ?_;refine aR 0 0 (aw rfl rfl) ?_ ?_
   ·intro h55;refine uO 8 ?_;intro a hA;refine eD (fun a w=>∃(b9 b10:Nat) (s t:aO),Ag a 106 [(2,.pointer (some ⟨b2,0,none⟩)),(3,.pointer (some ⟨b3,0,none⟩)),(8,.int .i64 ((k:Nat):Int)),(9,.pointer (some ⟨b9,0,none⟩)),(10,.pointer (some ⟨b10,0,none⟩))]∧Sat W w ([a8 b9 (.cells #[.int .i64 s.rep,.int .i64 s.lo,.int .i64 s.hi] 219),a8 b10 (.cells #[.int .i64 t.rep,.int .i64 t.lo,.int .i64 t.hi] 219),a8 b3 (.cells #[.slice yva yd.vec.length yvc,.slice yca yd.ab.length ycc] 63),a8 b2 (.cells #[.slice xva xd.vec.length xvc,.slice xca xd.ab.length xcc] 63),cI 3 xva xvc xd.vec,bK 219 xca xcc xd.ab,cI 3 yva yvc yd.vec,bK 219 yca ycc yd.ab])∧(xd.ab[k]?=some s)∧(yd.ab[k]?=some t)) ?_ ?_
    ·refine bh [13] hS (by kernel_rfl) ?_;replace hS:=hS.drew;refine P1 0 [] hA rfl (fun w=>(aa (hA.ev rfl) bZ)) ?_;clear hA a;refine cT 1 [2] rfl (by exact⟨[],hS⟩) (fun w hT=>have hS:=hT.sat;(ld rfl eM)) ?_;obtain⟨xca_p,rfl⟩:∃q,xca=some q:=(hS.p 3).rd.av (by omega);obtain⟨s,hs⟩:∃zz_,xd.ab[k]?=some zz_:=⟨_,List.getElem?_eq_getElem (by omega)⟩;refine bz 3 [] rfl (fun w=>(aj rfl rfl dm cA (by omega) (by omega))) ?_;refine cT 4 [] rfl (by exact⟨[],hS⟩) (fun w hT=>have hS:=hT.sat;(ad (cs:=gx s) rfl i6 cA (fun j u e=>bJ (hS.p 3).rd (dC hs j u e)))) ?_;refine bz 5 [] rfl (fun w=>(aa rfl bZ)) ?_;refine cT 6 [7] rfl (by exact⟨[],hS⟩) (fun w hT=>have hS:=hT.sat;(ld rfl eM)) ?_;obtain⟨yca_p,rfl⟩:∃q,yca=some q:=(hS.p 5).rd.av (by omega)
     obtain⟨t,ht⟩:∃zz_,yd.ab[k]?=some zz_:=⟨_,List.getElem?_eq_getElem (by omega)⟩;refine bz 8 [] rfl (fun w=>(aj rfl rfl dm cA (by omega) (by omega))) ?_;refine cT 9 [] rfl (by exact⟨[],hS⟩) (fun w hT=>have hS:=hT.sat;(ad (cs:=gx t) rfl i6 cA (fun j u e=>bJ (hS.p 5).rd (dC ht j u e)))) ?_;intro a hA;refine mZ 10 11 (by kernel_rfl) ?_ ?_
     ·refine eN hA rfl rfl mg hS ?_;clear hA a hS;intro b9 w hS;intro a hA;refine⟨.inr fun _=>(by exact⟨[_],hS⟩),?_⟩;refine aG 11 (by kernel_rfl) ?_;refine eN hA rfl rfl mg hS ?_;clear hA a hS;intro b10 w hS;intro a hA;refine⟨.inr fun _=>(by exact⟨[_,_],hS⟩),?_⟩;refine aG 12 (by kernel_rfl) ?_;refine dq (vs:=[_,_,_]) (cs':=[_,_,_]) hA rfl rfl rfl cA (by simp[Value.oneCell']) (hS.p 1) rfl rfl ?_;clear hS;intro w hS;refine⟨.inr fun _=>(by exact⟨[_,_],hS⟩),?_⟩;refine aG 13 (by kernel_rfl) ?_;refine dq (vs:=[_,_,_]) (cs':=[_,_,_]) hA rfl rfl rfl cA (by simp[Value.oneCell']) (hS.p 1) rfl rfl ?_;clear hS;intro w hS;refine⟨.inl rfl,?_⟩;refine ak (by kernel_rfl) ?_ _;replace hA:=hA.kp [2,3,8,9,10] rfl
      first
       | exact⟨b9,b10,s,t,hA,((((((((hS.p 7).p 7).p 7).p 7).p 7).p 7).p 6).p 7).cZ [_,_,_,_,_,_,_,_],(by exact hs),(by exact ht)⟩
     ·refine eN hA rfl rfl mg hS ?_;clear hA a hS;intro b10 w hS;intro a hA;refine⟨.inr fun _=>(by exact⟨[_],hS⟩),?_⟩;refine aG 10 (by kernel_rfl) ?_;refine eN hA rfl rfl mg hS ?_;clear hA a hS;intro b9 w hS;intro a hA;refine⟨.inr fun _=>(by exact⟨[_,_],hS⟩),?_⟩;refine aG 12 (by kernel_rfl) ?_;refine dq (vs:=[_,_,_]) (cs':=[_,_,_]) hA rfl rfl rfl cA (by simp[Value.oneCell']) hS rfl rfl ?_;clear hS;intro w hS;refine⟨.inr fun _=>(by exact⟨[_,_],hS⟩),?_⟩;refine aG 13 (by kernel_rfl) ?_;refine dq (vs:=[_,_,_]) (cs':=[_,_,_]) hA rfl rfl rfl cA (by simp[Value.oneCell']) (hS.p 1) rfl rfl ?_;clear hS;intro w hS;refine⟨.inl rfl,?_⟩;refine ak (by kernel_rfl) ?_ _;replace hA:=hA.kp [2,3,8,9,10] rfl
      first
       | exact⟨b9,b10,s,t,hA,((((((((hS.p 7).p 7).p 7).p 7).p 7).p 7).p 6).p 7).cZ [_,_,_,_,_,_,_,_],(by exact hs),(by exact ht)⟩
    ·intro a w hI;clear hS hA;obtain⟨b9,b10,s,t,hA,hS,hs,ht⟩:=hI;refine rC 3 hA ?_;clear hA a;refine u1 0 (aa rfl bV) ?_;refine u1 0 (ld rfl aQ) ?_;refine u1 0 (aa rfl bV) ?_;refine u1 0 (ld rfl aQ) ?_;refine aR 0 0 (aK rfl rfl) ?_ ?_
     ·intro h73;refine uO 5 ?_;refine u1 0 (aa rfl bV) ?_;refine u1 0 (ld rfl aQ) ?_;refine u1 0 (aa rfl bV) ?_;refine u1 0 (ld rfl aQ) ?_;refine uF sD rfl (gu _ _ _) ?_;rintro e w ⟨rfl,hT⟩;replace hS:Sat _ _ _:=hS.ai hT;clear hT;refine⟨_,rfl,?_⟩;refine uO 10 ?_;refine aX ?_;have hz:cu ((List.range 16).map fun r=>gr (ay xd.vec r) (ay yd.vec r))=0:=by rw[←List.take_of_length_le (l:=((List.range 16).map fun r=>gr (ay xd.vec r) (ay yd.vec r))) (i:=r) (by simp;omega)];exact he
      have hq:iN s t=gr s.rep t.rep:=by unfold iN;simp only[cu];rw[if_neg (j2 h73)]
      rw[aF hs,aF ht,dj,if_neg (by rw[hq];exact j2 h73),hq]at hc;refine⟨?_,hS.nil⟩;unfold pG rS;rw[←hx,←hy,cg,hz,if_pos rfl,jJ,←hc]
     ·intro h73;refine uO 8 ?_;refine u1 0 (aa rfl dS) ?_;refine u1 0 (ld rfl aQ) ?_;refine u1 0 (aa rfl dS) ?_;refine u1 0 (ld rfl aQ) ?_;refine aR 0 0 (aK rfl rfl) ?_ ?_
      ·intro h83;refine uO 5 ?_;refine u1 0 (aa rfl dS) ?_;refine u1 0 (ld rfl aQ) ?_;refine u1 0 (aa rfl dS) ?_;refine u1 0 (ld rfl aQ) ?_;refine uF sD rfl (gu _ _ _) ?_;rintro e w ⟨rfl,hT⟩;replace hS:Sat _ _ _:=hS.ai hT;clear hT;refine⟨_,rfl,?_⟩;refine uO 10 ?_;refine aX ?_;have hz:cu ((List.range 16).map fun r=>gr (ay xd.vec r) (ay yd.vec r))=0:=by rw[←List.take_of_length_le (l:=((List.range 16).map fun r=>gr (ay xd.vec r) (ay yd.vec r))) (i:=r) (by simp;omega)];exact he
       have hq:iN s t=gr s.lo t.lo:=by unfold iN;simp only[cu];rw[if_pos (eG.2 (by omega))];rw[if_neg (j2 h83)]
       rw[aF hs,aF ht,dj,if_neg (by rw[hq];exact j2 h83),hq]at hc;refine⟨?_,hS.nil⟩;unfold pG rS;rw[←hx,←hy,cg,hz,if_pos rfl,jJ,←hc]
      ·intro h83;refine uO 7 ?_;refine u1 0 (aa rfl dR) ?_;refine u1 0 (ld rfl aQ) ?_;refine u1 0 (aa rfl dR) ?_;refine u1 0 (ld rfl aQ) ?_;refine aR 0 0 (aK rfl rfl) ?_ ?_
       ·intro h93;refine uO 5 ?_;refine u1 0 (aa rfl dR) ?_;refine u1 0 (ld rfl aQ) ?_;refine u1 0 (aa rfl dR) ?_;refine u1 0 (ld rfl aQ) ?_;refine uF sD rfl (gu _ _ _) ?_;rintro e w ⟨rfl,hT⟩;replace hS:Sat _ _ _:=hS.ai hT;clear hT;refine⟨_,rfl,?_⟩;refine uO 9 ?_;refine aX ?_;have hz:cu ((List.range 16).map fun r=>gr (ay xd.vec r) (ay yd.vec r))=0:=by rw[←List.take_of_length_le (l:=((List.range 16).map fun r=>gr (ay xd.vec r) (ay yd.vec r))) (i:=r) (by simp;omega)];exact he
        have hq:iN s t=gr s.hi t.hi:=by unfold iN;simp only[cu];rw[if_pos (eG.2 (by omega))];rw[if_pos (eG.2 (by omega))];rw[if_neg (j2 h93)]
        rw[aF hs,aF ht,dj,if_neg (by rw[hq];exact j2 h93),hq]at hc;refine⟨?_,hS.nil⟩;unfold pG rS;rw[←hx,←hy,cg,hz,if_pos rfl,jJ,←hc]
       ·intro h93;refine uO 8 ?_;refine u1 2 (ah rfl rfl (by omega) (by omega)) ?_;intro a hA;replace hA:=hA.kp [2,3,8] rfl;have hz:iN s t=0:=by unfold iN;simp only[cu];rw[if_pos (eG.2 (by omega)),if_pos (eG.2 (by omega)),if_pos (eG.2 (by omega))]
        rw[aF hs,aF ht,dj,if_pos hz]at hc;exact⟨xd.ab.length-(k+1),by omega,k+1,hA,hS.drop.drop,by omega,by omega,hc,rfl⟩
   ·intro h55;refine uO 9 ?_;intro a hA;replace hA:=hA.kp [2,3] rfl;refine rC 2 hA ?_;clear hA a;refine u1 0 (aa rfl bZ) ?_;refine u1 0 (ld rfl eM) ?_;refine u1 0 (ar rfl dm) ?_;refine u1 0 (aa rfl bZ) ?_;refine u1 0 (ld rfl eM) ?_;refine u1 0 (ar rfl dm) ?_;refine uF sD rfl (gu _ _ _) ?_;rintro e w ⟨rfl,hT⟩;replace hS:Sat _ _ _:=hS.ai hT;clear hT;refine⟨_,rfl,?_⟩;refine uO 4 ?_;refine aX ?_;have hz:cu ((List.range 16).map fun r=>gr (ay xd.vec r) (ay yd.vec r))=0:=by rw[←List.take_of_length_le (l:=((List.range 16).map fun r=>gr (ay xd.vec r) (ay yd.vec r))) (i:=r) (by simp;omega)];exact he
    rw[wz (by omega) (by omega) (by omega)]at hc;refine⟨?_,hS.nil⟩;unfold pG rS;rw[←hx,←hy,cg,hz,if_pos rfl,jJ,←hc]
  ·intro h49;refine uO 15 ?_;intro a hA;replace hA:=hA.kp [2,3] rfl;refine rC 2 hA ?_;clear hA a;refine u1 0 (aa rfl bZ) ?_;refine u1 0 (ld rfl eM) ?_;refine u1 0 (ar rfl dm) ?_;refine u1 0 (aa rfl bZ) ?_;refine u1 0 (ld rfl eM) ?_;refine u1 0 (ar rfl dm) ?_;refine uF sD rfl (gu _ _ _) ?_;rintro e w ⟨rfl,hT⟩;replace hS:Sat _ _ _:=hS.ai hT;clear hT;refine⟨_,rfl,?_⟩;refine uO 4 ?_;refine aX ?_;have hz:cu ((List.range 16).map fun r=>gr (ay xd.vec r) (ay yd.vec r))=0:=by rw[←List.take_of_length_le (l:=((List.range 16).map fun r=>gr (ay xd.vec r) (ay yd.vec r))) (i:=r) (by simp;omega)];exact he
   rw[wz (by omega) (by omega) (by omega)]at hc;refine⟨?_,hS.nil⟩;unfold pG rS;rw[←hx,←hy,cg,hz,if_pos rfl,jJ,←hc]
end Go.Proofs.YtkjabaihpkbfhaaGreat.Wk
namespace Go.Proofs.YtkjabaihpkbfhaaGreat.K
open Go Go.RowKit
def re (a b:List UInt8):Bool:=Op.bytesLess a b
theorem qt (a:List UInt8):re a []=false:=by cases a<;>rfl
theorem zr (b:UInt8)(y:List UInt8):re [] (b::y)=true:=rfl
theorem mL (a b:UInt8)(x y:List UInt8):re (a::x) (b::y)=(decide (a<b) || (a == b && re x y)):=rfl
theorem p3:∀x:List UInt8,re x x=false
 | []=>rfl
 | a::x=>by rw[mL,p3 x];simp
theorem sQ:∀x y:List UInt8,(!(re x y || x == y))=re y x
 | [],[]=>rfl
 | [],b::y=>by rw[qt];rfl
 | a::x,[]=>by rw[qt];rfl
 | a :: x, b :: y => by
   rw[mL,mL,←sQ x y];rcases Nat.lt_trichotomy a.toNat b.toNat with h | h | h
   ·
    have h1:a<b:=h;have h2:¬b<a:=fun h2=>by have h3:b.toNat<a.toNat:=h2;omega
    have h3:¬b=a:=fun e=>by subst e;omega
    simp[h1,h2,h3]
   ·
    have e:a=b:=UInt8.toNat_inj.1 h;subst e;simp
   ·
    have h1:b<a:=h;have h2:¬a<b:=fun h2=>by have h3:a.toNat<b.toNat:=h2;omega
    have h3:¬a=b:=fun e=>by subst e;omega
    simp[h1,h2,h3]
theorem wX:∀x y z:List UInt8,re x y=true→re y z=true→re x z=true
 | _,_,[],_,h=>by rw[qt]at h;cases h
 | _,[],_::_,h,_=>by rw[qt]at h;cases h
 | [],_::_,_::_,_,_=>rfl
 | a :: x, b :: y, c :: z, h1, h2 => by
   rw[mL]at *;simp only[Bool.or_eq_true,decide_eq_true_eq,Bool.and_eq_true,beq_iff_eq]at *;rcases h1 with h1 | ⟨rfl,h1⟩
   ·
    rcases h2 with h2 | ⟨rfl,h2⟩
    ·
     left;exact UInt8.lt_trans h1 h2
    ·
     exact .inl h1
   ·
    rcases h2 with h2 | ⟨rfl,h2⟩
    ·
     exact .inl h2
    ·
     exact .inr ⟨rfl,wX x y z h1 h2⟩
def x7 (a b:ByteArray):Int:=if re a.data.toList b.data.toList then -1 else if re b.data.toList a.data.toList then 1 else 0
theorem Bi:∀x y:List UInt8,Lib.compareBytes x y=if re x y then -1 else if re y x then 1 else 0
 | [],[]=>rfl
 | [],b::y=>by rw[zr];rfl
 | a::x,[]=>by rw[qt,zr];rfl
 | a :: x, b :: y => by
   rw[Lib.compareBytes,Bi x y,mL,mL]
   by_cases h:a<b
   ·
    simp[h]
   ·
    by_cases h':b<a
    ·
     have e:¬a=b:=fun e=>h (by subst e;exact h')
     simp[h,h',e]
    ·
     have e:a=b:=UInt8.toNat_inj.1 (by
      have h1:¬a.toNat<b.toNat:=h;have h2:¬b.toNat<a.toNat:=h';omega)
     subst e;simp[h]
section
variable {P:Program} {w:World} {ρ:Operand→Value} {t ty yt:TypeId} {x y:Operand} {ps:String} {af:Array Edge} {dd:Option Tmp} {g:Option (Nat×Bool)}
theorem nU (s:ByteArray):s.size=s.data.toList.length:=by cases s;rfl
theorem Ff {s:ByteArray}{j:Nat}{c:UInt8}(hc:s.data.toList[j]?=some c):∃h:j<s.size,s[j]'h=c:=by
 obtain⟨h,e⟩:=List.getElem?_eq_some_iff.1 hc;have h':j<s.size:=by rw[nU];exact h
 refine⟨h',?_⟩;rw[←e];cases s;rfl
theorem tP {s:ByteArray}{i:Int}{j:Nat}{k:IntKind}{c:UInt8}(hx:ρ x=.string s)(hy:ρ y=.int k i)(ht:P.underlying t=some .string)(hi:i=(j:Int))(hc:s.data.toList[j]?=some c) :
 (execOp ρ ⟨dd,.index t x y,ty,ps,af,g⟩).run P w=.ok (.value (.int .u8 (c.toNat:Int))) w:=by
 subst hi;obtain⟨h,e⟩:=Ff hc;have h2:(0:Int)≤(j:Int)∧(j:Int)<(s.size:Int):=⟨by omega,by omega⟩
 have h3:(Instr.index t (.string s) (.int k (j:Int))).run P w=.ok (.int .u8 (c.toNat:Int)) w:=by
  rw[run_index_string _ _ _ _ _ ht,dif_pos h2];simp only[Int.toNat_natCast];rw[e]
 simp[execOp,hx,hy,h3,go_sem]
theorem IT {a b:ByteArray}(hx:ρ x=.string a)(hy:ρ y=.string b):(execOp ρ ⟨dd,.binOp .lss t x y yt,ty,ps,af,g⟩).run P w=.ok (.value (.bool (re a.data.toList b.data.toList))) w:=by
 simp[execOp,hx,hy,binOp,Op.stringOp,re,go_sem,ByteArray.toList_eq]
theorem Dx {a b:ByteArray}(hx:ρ x=.string a)(hy:ρ y=.string b):(execOp ρ ⟨dd,.binOp .gtr t x y yt,ty,ps,af,g⟩).run P w=.ok (.value (.bool (re b.data.toList a.data.toList))) w:=by
 have h:=sQ a.data.toList b.data.toList;unfold re at h ⊢;simp[execOp,hx,hy,binOp,Op.stringOp,go_sem,ByteArray.toList_eq,←h]
end
theorem kV {w:World}{sz n c k o j:Nat}{p:Addr}{cs:List Value}{u:Value}(hR:Rd w sz (.slice (some p) n c) n cs)(h:cs[k+(o+j)]?=some u):w.cell? (((p.add k).add o).add j)=some u:=by
 rw[add_add,add_add];exact hR.cell h
end Go.Proofs.YtkjabaihpkbfhaaGreat.K
namespace Go.Proofs.YtkjabaihpkbfhaaGreat.Wk
open Go Go.RowKit Go.Proofs.YtkjabaihpkbfhaaGreat Go.Proofs.YtkjabaihpkbfhaaGreat.K
theorem Dn {s:ByteArray}(h:s.data.toList.length=0):s={ data:=#[] }:=by
 obtain⟨⟨l⟩⟩:=s;have:l=[]:=List.eq_nil_of_length_eq_zero h;subst this;rfl
theorem jr (x:aV)(j:Nat)(u:Value)(e:([Value.int .i64 x.rep,Value.int .i64 x.num]:List Value)[j]?=some u):(mC x)[0+j]?=some u:=by
 have hj:=(List.getElem?_eq_some_iff.1 e).1;rw[Nat.zero_add,←e]
 match j,hj with
 | 0,_=>rfl
 | 1,_=>rfl
theorem td (W:World)(c:UInt8)  : Calls Tryz.prog 246 #[.int .u8 (c.toNat:Int)] W fun e w'=>e=.returned (.bool (xX c))∧Sat W w' []:=by
 refine enter Tryz.func246 rfl rfl rfl (.cons (i:=0) rfl .nil) ?_;have hS:=Sat.start W;refine uC 8 ?_;refine aR 0 0 (du rfl rfl) ?_ ?_
 ·intro h4;refine uO 2 ?_;refine u1 5 (du rfl rfl) ?_;refine aX ?_;refine⟨?_,hS⟩;unfold xX
  congr 2
  rw[Bool.eq_iff_iff];simp only[Bool.and_eq_true,Bool.or_eq_true,decide_eq_true_eq,Bool.false_eq_true,false_iff,true_iff];omega
 ·intro h4;refine uO 8 ?_;refine aX ?_;refine⟨?_,hS⟩;unfold xX
  congr 2
  rw[Bool.eq_iff_iff];simp only[Bool.and_eq_true,Bool.or_eq_true,decide_eq_true_eq,Bool.false_eq_true,false_iff,true_iff];omega
theorem vw (W:World)(c:UInt8)  : Calls Tryz.prog 247 #[.int .u8 (c.toNat:Int)] W fun e w'=>e=.returned (.bool (w7 c))∧Sat W w' []:=by
 refine enter Tryz.func247 rfl rfl rfl (.cons (i:=0) rfl .nil) ?_;have hS:=Sat.start W;refine uC 8 ?_;refine aR 0 0 (du rfl rfl) ?_ ?_
 ·intro h4;refine uO 2 ?_;refine u1 5 (du rfl rfl) ?_;refine aX ?_;refine⟨?_,hS⟩;unfold w7
  congr 2
  rw[Bool.eq_iff_iff];simp only[Bool.and_eq_true,Bool.or_eq_true,decide_eq_true_eq,Bool.false_eq_true,false_iff,true_iff];omega
 ·intro h4;refine uO 8 ?_;refine aX ?_;refine⟨?_,hS⟩;unfold w7
  congr 2
  rw[Bool.eq_iff_iff];simp only[Bool.and_eq_true,Bool.or_eq_true,decide_eq_true_eq,Bool.false_eq_true,false_iff,true_iff];omega
theorem qO (W:World)(c:UInt8)  : Calls Tryz.prog 248 #[.int .u8 (c.toNat:Int)] W fun e w'=>e=.returned (.bool (tY c))∧Sat W w' []:=by
 refine enter Tryz.func248 rfl rfl rfl (.cons (i:=0) rfl .nil) ?_;have hS:=Sat.start W;refine uC 8 ?_;refine aR 0 0 (bn rfl rfl) ?_ ?_
 ·intro h4;refine uO 8 ?_;refine aX ?_;refine⟨?_,hS⟩;unfold tY
  congr 2
  rw[Bool.eq_iff_iff];simp only[Bool.and_eq_true,Bool.or_eq_true,decide_eq_true_eq,Bool.false_eq_true,false_iff,true_iff];omega
 ·intro h4;refine uO 2 ?_;refine u1 5 (bn rfl rfl) ?_;refine aX ?_;refine⟨?_,hS⟩;unfold tY
  congr 2
  rw[Bool.eq_iff_iff];simp only[Bool.and_eq_true,Bool.or_eq_true,decide_eq_true_eq,Bool.false_eq_true,false_iff,true_iff];omega
theorem xD (W:World)(c:UInt8)  : Calls Tryz.prog 291 #[.int .u8 (c.toNat:Int)] W fun e w'=>e=.returned (.bool (xX c))∧Sat W w' []:=by
 refine enter Tryz.func291 rfl rfl rfl (.cons (i:=0) rfl .nil) ?_;have hS:=Sat.start W;refine uC 8 ?_;refine aR 0 0 (eo rfl rfl) ?_ ?_
 ·intro h4;refine uO 2 ?_;refine u1 5 (du rfl rfl) ?_;refine aX ?_;refine⟨?_,hS⟩;unfold xX
  congr 2
  rw[Bool.eq_iff_iff];simp only[Bool.and_eq_true,Bool.or_eq_true,decide_eq_true_eq,Bool.false_eq_true,false_iff,true_iff];omega
 ·intro h4;refine uO 8 ?_;refine aX ?_;refine⟨?_,hS⟩;unfold xX
  congr 2
  rw[Bool.eq_iff_iff];simp only[Bool.and_eq_true,Bool.or_eq_true,decide_eq_true_eq,Bool.false_eq_true,false_iff,true_iff];omega
theorem yQ (W:World)(c:UInt8)  : Calls Tryz.prog 292 #[.int .u8 (c.toNat:Int)] W fun e w'=>e=.returned (.bool (w7 c))∧Sat W w' []:=by
 refine enter Tryz.func292 rfl rfl rfl (.cons (i:=0) rfl .nil) ?_;have hS:=Sat.start W;refine uC 8 ?_;refine aR 0 0 (eo rfl rfl) ?_ ?_
 ·intro h4;refine uO 2 ?_;refine u1 5 (du rfl rfl) ?_;refine aX ?_;refine⟨?_,hS⟩;unfold w7
  congr 2
  rw[Bool.eq_iff_iff];simp only[Bool.and_eq_true,Bool.or_eq_true,decide_eq_true_eq,Bool.false_eq_true,false_iff,true_iff];omega
 ·intro h4;refine uO 8 ?_;refine aX ?_;refine⟨?_,hS⟩;unfold w7
  congr 2
  rw[Bool.eq_iff_iff];simp only[Bool.and_eq_true,Bool.or_eq_true,decide_eq_true_eq,Bool.false_eq_true,false_iff,true_iff];omega
theorem uR (W:World)(c:UInt8)  : Calls Tryz.prog 293 #[.int .u8 (c.toNat:Int)] W fun e w'=>e=.returned (.bool (tY c))∧Sat W w' []:=by
 refine enter Tryz.func293 rfl rfl rfl (.cons (i:=0) rfl .nil) ?_;have hS:=Sat.start W;refine uC 8 ?_;refine aR 0 0 (bn rfl rfl) ?_ ?_
 ·intro h4;refine uO 8 ?_;refine aX ?_;refine⟨?_,hS⟩;unfold tY
  congr 2
  rw[Bool.eq_iff_iff];simp only[Bool.and_eq_true,Bool.or_eq_true,decide_eq_true_eq,Bool.false_eq_true,false_iff,true_iff];omega
 ·intro h4;refine uO 2 ?_;refine u1 5 (bn rfl rfl) ?_;refine aX ?_;refine⟨?_,hS⟩;unfold tY
  congr 2
  rw[Bool.eq_iff_iff];simp only[Bool.and_eq_true,Bool.or_eq_true,decide_eq_true_eq,Bool.false_eq_true,false_iff,true_iff];omega
end Go.Proofs.YtkjabaihpkbfhaaGreat.Wk
namespace Go.Proofs.YtkjabaihpkbfhaaGreat.Wk
open Go Go.RowKit Go.Proofs.YtkjabaihpkbfhaaGreat Go.Proofs.YtkjabaihpkbfhaaGreat.K Go.Proofs.YtkjabaihpkbfhaaGreat.T
theorem ti (W:World)(s:ByteArray)  : Calls Tryz.prog 196 #[.string s] W fun e w'=>e=.returned (.tuple #[.int .i64 (((pZ s.data.toList).1:Nat):Int),.int .i64 (pZ s.data.toList).2])∧Sat W w' []:=by
 refine enter Tryz.func196 rfl rfl rfl (.cons (i:=0) rfl .nil) ?_;have hS:=Sat.start W;have hsz:=nU s;refine uC 10 ?_;refine aR 0 0 (iK rfl rfl) ?_ ?_
 ·intro h7;refine uO 11 ?_;refine fy ?_;obtain rfl:=h7;exact⟨rfl,hS⟩
 ·intro h7;have h0:s.data.toList.length≠0:=fun h0=>h7 (Dn h0)
  refine uO 9 ?_;refine u1 0 (hP rfl xu) ?_;refine aR 0 0 (dv rfl rfl) ?_ ?_
  ·intro h10;refine uO 11 ?_;refine fy ?_;refine⟨?_,hS⟩;unfold pZ;rw[if_neg (by omega),if_pos (by omega)];rfl
  ·intro h10;intro a hA;rw[hsz]at hA h10;refine rO 9 hA ?_;clear hA a;refine u1 4 (hP rfl xu) ?_;intro a hA;refine wp_loop_ghost (fun (mm:Nat) a w=>∃(i:Nat),Ag a 48 [(0,.string s),(12,.int .i64 ((s.data.toList.length:Nat):Int)),(13,.int .i64 ((i:Nat):Int))]∧Sat W w ([])∧(i≤s.data.toList.length)∧(∀j,j<i→rf s.data.toList j=true)∧mm=s.data.toList.length-i) s.data.toList.length ?_ ?_
   ·replace hA:=hA.kp [0,12,13] rfl;exact⟨0,hA,hS,(by omega),(by intro j hj;omega),by omega⟩
   intro m a w hI;clear hS hA;obtain⟨i,hA,hS,hi,he,rfl⟩:=hI;refine rC 2 hA ?_;clear hA a;refine aR 0 0 (aw rfl rfl) ?_ ?_
   ·intro h14;refine uO 18 ?_;obtain⟨c,hc⟩:∃zz_,s.data.toList[i]?=some zz_:=⟨_,List.getElem?_eq_getElem (by omega)⟩;refine u1 7 (tP rfl rfl xu (by omega) hc) ?_;refine uF Ko rfl (td _ c) ?_;rintro e w ⟨rfl,hT⟩;replace hS:Sat _ _ _:=hS.ai hT;clear hT;generalize h20:(xX c)=bb;cases bb
    ·refine⟨_,rfl,?_⟩;refine uO 2 ?_;intro a hA;refine dQ hA (ao hA rfl rfl rfl) rfl J0 rfl (vw _ c) ?_;clear hA a;rintro e w ⟨rfl,hT⟩;replace hS:Sat _ _ _:=hS.ai hT;clear hT;generalize h23:(w7 c)=bb;cases bb
     ·refine⟨_,rfl,?_⟩;refine uO 9 ?_;refine uF He rfl (qO _ c) ?_;rintro e w ⟨rfl,hT⟩;replace hS:Sat _ _ _:=hS.ai hT;clear hT;generalize h26:(tY c)=bb;cases bb
      ·refine⟨_,rfl,?_⟩;refine u1 34 (aM rfl) ?_;refine fy ?_
       have hst:rf s.data.toList i=false:=by
        unfold rf;rw[hc];simp[h20,h23,h26]
       refine⟨?_,hS⟩;rw[n0 (by omega) (by omega) (by omega) hst he]
      ·refine⟨_,rfl,?_⟩;refine u1 2 (aM rfl) ?_;refine aR 0 0 (bn rfl rfl) ?_ ?_
       ·intro h30;refine uO 31 ?_;refine fy ?_
        have hst:rf s.data.toList i=false:=by
         unfold rf;rw[hc];have e:i=0:=by omega
         simp[h20,h23,e]
        refine⟨?_,hS⟩;rw[n0 (by omega) (by omega) (by omega) hst he]
       ·intro h30;refine uO 4 ?_;refine u1 0 (hP rfl xu) ?_;refine u1 0 (aZ rfl rfl (by omega) (by omega)) ?_;refine aR 0 0 (bn rfl rfl) ?_ ?_
        ·intro h37;refine uO 24 ?_;refine fy ?_
         have hst:rf s.data.toList i=false:=by
          unfold rf;rw[hc];have e:i+1=s.size:=by omega
          simp[h20,h23,e]
         refine⟨?_,hS⟩;rw[n0 (by omega) (by omega) (by omega) hst he]
        ·intro h37;refine uO 4 ?_;refine u1 0 (aZ rfl rfl (by omega) (by omega)) ?_;obtain⟨p,hp⟩:∃zz_,s.data.toList[i-1]?=some zz_:=⟨_,List.getElem?_eq_getElem (by omega)⟩;refine u1 0 (tP rfl rfl xu (by omega) hp) ?_;intro a hA;refine dQ hA (ao hA rfl rfl rfl) rfl He rfl (qO _ p) ?_;clear hA a;rintro e w ⟨rfl,hT⟩;replace hS:Sat _ _ _:=hS.ai hT;clear hT;generalize h44:(tY p)=bb;cases bb
         ·refine⟨_,rfl,?_⟩;refine uO 8 ?_;refine u1 2 (ah rfl rfl (by omega) (by omega)) ?_;intro a hA;replace hA:=hA.kp [0,12,13] rfl
          have hst:rf s.data.toList i=true:=by
           unfold rf;rw[hc];have e1:i≠0:=by omega
           have e2:¬i+1=s.size:=by omega
           simp[h20,h23,h26,e1,e2,hp,h44]
          exact⟨s.data.toList.length-(i+1),by omega,i+1,hA,hS,by omega,fun j hj=>(by rcases Nat.lt_or_ge j i with h | h;exact he j h;obtain rfl:j=i:=(by omega);exact hst),rfl⟩
         ·refine⟨_,rfl,?_⟩;refine uO 17 ?_;refine fy ?_
          have hst:rf s.data.toList i=false:=by
           unfold rf;rw[hc];have e1:i≠0:=by omega
           have e2:¬i+1=s.size:=by omega
           simp[h20,h23,h26,e1,e2,hp,h44]
          refine⟨?_,hS⟩;rw[n0 (by omega) (by omega) (by omega) hst he]
     ·refine⟨_,rfl,?_⟩;refine uO 9 ?_;refine u1 2 (ah rfl rfl (by omega) (by omega)) ?_;intro a hA;replace hA:=hA.kp [0,12,13] rfl
      have hst:rf s.data.toList i=true:=by
       unfold rf;rw[hc];simp[h20,h23]
      exact⟨s.data.toList.length-(i+1),by omega,i+1,hA,hS,by omega,fun j hj=>(by rcases Nat.lt_or_ge j i with h | h;exact he j h;obtain rfl:j=i:=(by omega);exact hst),rfl⟩
    ·refine⟨_,rfl,?_⟩;refine uO 12 ?_;refine u1 2 (ah rfl rfl (by omega) (by omega)) ?_;intro a hA;replace hA:=hA.kp [0,12,13] rfl
     have hst:rf s.data.toList i=true:=by
      unfold rf;rw[hc];simp[h20]
     exact⟨s.data.toList.length-(i+1),by omega,i+1,hA,hS,by omega,fun j hj=>(by rcases Nat.lt_or_ge j i with h | h;exact he j h;obtain rfl:j=i:=(by omega);exact hst),rfl⟩
   ·intro h14;refine uO 9 ?_;intro a hA;replace hA:=hA.kp [] rfl;refine rC 7 hA ?_;clear hA a;refine fy ?_;obtain rfl:i=s.data.toList.length:=by omega
    refine⟨?_,hS⟩;rw[BR (by omega) (by omega) he];rfl
theorem o6 (W:World)(s:ByteArray)  : Calls Tryz.prog 163 #[.string s] W fun e w'=>e=.returned (.bool (mv s))∧Sat W w' []:=by
 refine enter Tryz.func163 rfl rfl rfl (.cons (i:=0) rfl .nil) ?_;have hS:=Sat.start W;refine uC 8 ?_;refine uF Ia rfl (ti _ s) ?_;rintro e w ⟨rfl,hT⟩;replace hS:Sat _ _ _:=hS.ai hT;clear hT;refine⟨_,rfl,?_⟩;refine uO 1 ?_;refine u1 0 (au rfl rfl) ?_;refine u1 7 (au rfl rfl) ?_;refine u1 4 (bn rfl rfl) ?_;refine aX ?_;exact⟨rfl,hS⟩
theorem xE (W:World)(s:ByteArray)(i:Nat)(hi:i<s.data.toList.length)(hl:s.data.toList.length≤24):Calls Tryz.prog 283 #[.string s,.int .i64 ((i:Nat):Int)] W fun e w'=>e=.returned (.bool (rf s.data.toList i))∧Sat W w' []:=by
 refine enter Tryz.func283 rfl rfl rfl (.cons (i:=0) rfl (.cons (i:=1) rfl .nil)) ?_;have hS:=Sat.start W;have hsz:=nU s;refine uC 9 ?_;obtain⟨c,hc⟩:∃zz_,s.data.toList[i]?=some zz_:=⟨_,List.getElem?_eq_getElem (by omega)⟩;refine u1 7 (tP rfl rfl xu (by omega) hc) ?_;refine uF Ic rfl (xD _ c) ?_;rintro e w ⟨rfl,hT⟩;replace hS:Sat _ _ _:=hS.ai hT;clear hT;generalize h10:(xX c)=bb;cases bb
 ·refine⟨_,rfl,?_⟩;refine uO 2 ?_;intro a hA;refine dQ hA (ao hA rfl rfl rfl) rfl IQ rfl (yQ _ c) ?_;clear hA a;rintro e w ⟨rfl,hT⟩;replace hS:Sat _ _ _:=hS.ai hT;clear hT;generalize h13:(w7 c)=bb;cases bb
  ·refine⟨_,rfl,?_⟩;refine uO 10 ?_;refine uF GM rfl (uR _ c) ?_;rintro e w ⟨rfl,hT⟩;replace hS:Sat _ _ _:=hS.ai hT;clear hT;generalize h16:(tY c)=bb;cases bb
   ·refine⟨_,rfl,?_⟩;refine u1 10 (aM rfl) ?_;refine aX ?_;refine⟨?_,hS⟩
    congr 2
    unfold rf;rw[hc];simp[h10,h13,h16]
   ·refine⟨_,rfl,?_⟩;refine u1 9 (aM rfl) ?_;refine aR 0 0 (bn rfl rfl) ?_ ?_
    ·intro h19;refine uO 9 ?_;intro a hA;replace hA:=hA.kp [0,1,4,26] rfl;refine rC 8 hA ?_;clear hA a;refine aX ?_;refine⟨?_,hS⟩
     congr 2
     unfold rf;rw[hc];have e:i=0:=by omega
     simp[h10,h13,e]
    ·intro h19;refine uO 3 ?_;refine u1 0 (hP rfl xu) ?_;refine u1 0 (aZ rfl rfl (by omega) (by omega)) ?_;refine aR 0 0 (bn rfl rfl) ?_ ?_
     ·intro h25;refine uO 3 ?_;intro a hA;replace hA:=hA.kp [0,1,4,26] rfl;refine rC 8 hA ?_;clear hA a;refine aX ?_;refine⟨?_,hS⟩
      congr 2
      unfold rf;rw[hc];have e:i+1=s.size:=by omega
      simp[h10,h13,e]
     ·intro h25;refine uO 3 ?_;intro a hA;replace hA:=hA.kp [0,1,4,26] rfl;refine rC 7 hA ?_;clear hA a;refine u1 0 (aZ rfl rfl (by omega) (by omega)) ?_;obtain⟨p,hp⟩:∃zz_,s.data.toList[i-1]?=some zz_:=⟨_,List.getElem?_eq_getElem (by omega)⟩;refine u1 0 (tP rfl rfl xu (by omega) hp) ?_;refine uF GM rfl (uR _ p) ?_;rintro e w ⟨rfl,hT⟩;replace hS:Sat _ _ _:=hS.ai hT;clear hT;refine⟨_,rfl,?_⟩;refine u1 4 (aM rfl) ?_;refine aX ?_;refine⟨?_,hS⟩
      congr 2
      unfold rf;rw[hc];have e1:i≠0:=by omega
      have e2:¬i+1=s.size:=by omega
      simp[h10,h13,h16,e1,e2,hp]
  ·refine⟨_,rfl,?_⟩;refine uO 11 ?_;refine aX ?_;refine⟨?_,hS⟩
   congr 2
   unfold rf;rw[hc];simp[h10,h13]
 ·refine⟨_,rfl,?_⟩;refine uO 14 ?_;refine aX ?_;refine⟨?_,hS⟩
  congr 2
  unfold rf;rw[hc];simp[h10]
theorem sI (W:World)(s:ByteArray)  : Calls Tryz.prog 272 #[.string s] W fun e w'=>e=.returned (.tuple #[.int .i64 (((pZ s.data.toList).1:Nat):Int),.int .i64 (pZ s.data.toList).2])∧Sat W w' []:=by
 refine enter Tryz.func272 rfl rfl rfl (.cons (i:=0) rfl .nil) ?_;have hS:=Sat.start W;have hsz:=nU s;refine uC 10 ?_;refine u1 0 (hP rfl xu) ?_;refine aR 0 0 (bn rfl rfl) ?_ ?_
 ·intro h7;refine uO 11 ?_;refine fy ?_;refine⟨?_,hS⟩;unfold pZ;rw[if_pos (by omega)];rfl
 ·intro h7;refine uO 9 ?_;refine u1 0 (hP rfl xu) ?_;refine aR 0 0 (dv rfl rfl) ?_ ?_
  ·intro h10;refine uO 11 ?_;refine fy ?_;refine⟨?_,hS⟩;unfold pZ;rw[if_neg (by omega),if_pos (by omega)];rfl
  ·intro h10;refine uO 12 ?_;intro a hA;refine wp_loop_ghost (fun (mm:Nat) a w=>∃(i:Nat),Ag a 22 [(0,.string s),(4,.int .i64 ((i:Nat):Int))]∧Sat W w ([])∧(i≤s.data.toList.length)∧(∀j,j<i→rf s.data.toList j=true)∧mm=s.data.toList.length-i) s.data.toList.length ?_ ?_
   ·replace hA:=hA.kp [0,4] rfl;exact⟨0,hA,hS,(by omega),(by intro j hj;omega),by omega⟩
   intro m a w hI;clear hS hA;obtain⟨i,hA,hS,hi,he,rfl⟩:=hI;refine rC 5 hA ?_;clear hA a;refine u1 0 (hP rfl xu) ?_;refine aR 0 0 (aw rfl rfl) ?_ ?_
   ·intro h14;refine uO 11 ?_;refine uF KQ rfl (xE _ s i (by omega) (by omega)) ?_;rintro e w ⟨rfl,hT⟩;replace hS:Sat _ _ _:=hS.ai hT;clear hT;generalize h19:(rf s.data.toList i)=bb;cases bb
    ·refine⟨_,rfl,?_⟩;refine u1 16 (aM rfl) ?_;refine fy ?_;refine⟨?_,hS⟩;rw[n0 (by omega) (by omega) (by omega) h19 he]
    ·refine⟨_,rfl,?_⟩;refine u1 8 (aM rfl) ?_;refine u1 2 (ah rfl rfl (by omega) (by omega)) ?_;intro a hA;replace hA:=hA.kp [0,4] rfl;exact⟨s.data.toList.length-(i+1),by omega,i+1,hA,hS,by omega,fun j hj=>(by rcases Nat.lt_or_ge j i with h | h;exact he j h;obtain rfl:j=i:=(by omega);exact h19),rfl⟩
   ·intro h14;refine uO 8 ?_;intro a hA;replace hA:=hA.kp [] rfl;refine rC 7 hA ?_;clear hA a;refine fy ?_;obtain rfl:i=s.data.toList.length:=by omega
    refine⟨?_,hS⟩;rw[BR (by omega) (by omega) he];rfl
theorem gi (W:World)(s:ByteArray)  : Calls Tryz.prog 242 #[.string s] W fun e w'=>e=.returned (.bool (mv s))∧Sat W w' []:=by
 refine enter Tryz.func242 rfl rfl rfl (.cons (i:=0) rfl .nil) ?_;have hS:=Sat.start W;refine uC 8 ?_;refine uF KO rfl (sI _ s) ?_;rintro e w ⟨rfl,hT⟩;replace hS:Sat _ _ _:=hS.ai hT;clear hT;refine⟨_,rfl,?_⟩;refine uO 1 ?_;refine u1 0 (au rfl rfl) ?_;refine u1 7 (au rfl rfl) ?_;refine u1 4 (bn rfl rfl) ?_;refine aX ?_;exact⟨rfl,hS⟩
theorem xl (W:World)(a b:aV)  : Calls Tryz.prog 156 #[.agg #[.int .i64 a.rep,.int .i64 a.num],.agg #[.int .i64 b.rep,.int .i64 b.num]] W fun e w'=>e=.returned (.bool (nf a b))∧Sat W w' []:=by
 refine enter Tryz.func156 rfl rfl rfl (.cons (i:=0) rfl (.cons (i:=1) rfl .nil)) ?_;have hS:=Sat.start W;refine uC 2 ?_;refine uB rfl hS ?_;clear hS;intro b2 w hS;refine uB rfl hS ?_;clear hS;intro b3 w hS;refine uO 5 ?_;refine u1 0 (aa rfl bw) ?_;refine u1 0 (ld rfl aQ) ?_;refine u1 0 (aa rfl bw) ?_;refine u1 0 (ld rfl aQ) ?_;refine aR 0 0 (aw rfl rfl) ?_ ?_
 ·intro h9;refine uO 18 ?_;refine aX ?_;refine⟨?_,hS.nil⟩;unfold nf
  congr 2
  rw[Bool.eq_iff_iff];simp only[Bool.and_eq_true,Bool.or_eq_true,decide_eq_true_eq,Bool.false_eq_true,false_iff,true_iff];omega
 ·intro h9;refine uO 1 ?_;refine u1 0 (aa rfl bw) ?_;refine u1 0 (ld rfl aQ) ?_;refine u1 0 (aa rfl bw) ?_;refine u1 0 (ld rfl aQ) ?_;refine aR 0 0 (bn rfl rfl) ?_ ?_
  ·intro h15;refine uO 1 ?_;refine u1 0 (aa rfl bQ) ?_;refine u1 0 (ld rfl aQ) ?_;refine u1 0 (aa rfl bQ) ?_;refine u1 0 (ld rfl aQ) ?_;refine u1 6 (aw rfl rfl) ?_;refine aX ?_;refine⟨?_,hS.nil⟩;unfold nf
   congr 2
   rw[Bool.eq_iff_iff];simp only[Bool.and_eq_true,Bool.or_eq_true,decide_eq_true_eq,Bool.false_eq_true,false_iff,true_iff];omega
  ·intro h15;refine uO 12 ?_;refine aX ?_;refine⟨?_,hS.nil⟩;unfold nf
   congr 2
   rw[Bool.eq_iff_iff];simp only[Bool.and_eq_true,Bool.or_eq_true,decide_eq_true_eq,Bool.false_eq_true,false_iff,true_iff];omega
theorem xN (W:World)(a b:aV)  : Calls Tryz.prog 226 #[.agg #[.int .i64 a.rep,.int .i64 a.num],.agg #[.int .i64 b.rep,.int .i64 b.num]] W fun e w'=>e=.returned (.bool (nf a b))∧Sat W w' []:=by
 refine enter Tryz.func226 rfl rfl rfl (.cons (i:=0) rfl (.cons (i:=1) rfl .nil)) ?_;have hS:=Sat.start W;refine uC 2 ?_;refine uB rfl hS ?_;clear hS;intro b2 w hS;refine uB rfl hS ?_;clear hS;intro b3 w hS;refine uO 5 ?_;refine u1 0 (aa rfl bw) ?_;refine u1 0 (ld rfl aQ) ?_;refine u1 0 (aa rfl bw) ?_;refine u1 0 (ld rfl aQ) ?_;refine aR 0 0 (aw rfl rfl) ?_ ?_
 ·intro h9;refine uO 18 ?_;refine aX ?_;refine⟨?_,hS.nil⟩;unfold nf
  congr 2
  rw[Bool.eq_iff_iff];simp only[Bool.and_eq_true,Bool.or_eq_true,decide_eq_true_eq,Bool.false_eq_true,false_iff,true_iff];omega
 ·intro h9;refine uO 1 ?_;refine u1 0 (aa rfl bw) ?_;refine u1 0 (ld rfl aQ) ?_;refine u1 0 (aa rfl bw) ?_;refine u1 0 (ld rfl aQ) ?_;refine aR 0 0 (bn rfl rfl) ?_ ?_
  ·intro h15;refine uO 1 ?_;refine u1 0 (aa rfl bQ) ?_;refine u1 0 (ld rfl aQ) ?_;refine u1 0 (aa rfl bQ) ?_;refine u1 0 (ld rfl aQ) ?_;refine u1 6 (aw rfl rfl) ?_;refine aX ?_;refine⟨?_,hS.nil⟩;unfold nf
   congr 2
   rw[Bool.eq_iff_iff];simp only[Bool.and_eq_true,Bool.or_eq_true,decide_eq_true_eq,Bool.false_eq_true,false_iff,true_iff];omega
  ·intro h15;refine uO 12 ?_;refine aX ?_;refine⟨?_,hS.nil⟩;unfold nf
   congr 2
   rw[Bool.eq_iff_iff];simp only[Bool.and_eq_true,Bool.or_eq_true,decide_eq_true_eq,Bool.false_eq_true,false_iff,true_iff];omega
theorem xp (W:World)(a b:aV)  : Calls Tryz.prog 264 #[.agg #[.int .i64 a.rep,.int .i64 a.num],.agg #[.int .i64 b.rep,.int .i64 b.num]] W fun e w'=>e=.returned (.bool (nf a b))∧Sat W w' []:=by
 refine enter Tryz.func264 rfl rfl rfl (.cons (i:=0) rfl (.cons (i:=1) rfl .nil)) ?_;have hS:=Sat.start W;refine uC 2 ?_;refine uB rfl hS ?_;clear hS;intro b2 w hS;refine uB rfl hS ?_;clear hS;intro b3 w hS;refine uO 5 ?_;refine u1 0 (aa rfl bw) ?_;refine u1 0 (ld rfl aQ) ?_;refine u1 0 (aa rfl bw) ?_;refine u1 0 (ld rfl aQ) ?_;refine aR 0 0 (aw rfl rfl) ?_ ?_
 ·intro h9;refine uO 18 ?_;refine aX ?_;refine⟨?_,hS.nil⟩;unfold nf
  congr 2
  rw[Bool.eq_iff_iff];simp only[Bool.and_eq_true,Bool.or_eq_true,decide_eq_true_eq,Bool.false_eq_true,false_iff,true_iff];omega
 ·intro h9;refine uO 1 ?_;refine u1 0 (aa rfl bw) ?_;refine u1 0 (ld rfl aQ) ?_;refine u1 0 (aa rfl bw) ?_;refine u1 0 (ld rfl aQ) ?_;refine aR 0 0 (bn rfl rfl) ?_ ?_
  ·intro h15;refine uO 1 ?_;refine u1 0 (aa rfl bQ) ?_;refine u1 0 (ld rfl aQ) ?_;refine u1 0 (aa rfl bQ) ?_;refine u1 0 (ld rfl aQ) ?_;refine u1 6 (aw rfl rfl) ?_;refine aX ?_;refine⟨?_,hS.nil⟩;unfold nf
   congr 2
   rw[Bool.eq_iff_iff];simp only[Bool.and_eq_true,Bool.or_eq_true,decide_eq_true_eq,Bool.false_eq_true,false_iff,true_iff];omega
  ·intro h15;refine uO 12 ?_;refine aX ?_;refine⟨?_,hS.nil⟩;unfold nf
   congr 2
   rw[Bool.eq_iff_iff];simp only[Bool.and_eq_true,Bool.or_eq_true,decide_eq_true_eq,Bool.false_eq_true,false_iff,true_iff];omega
theorem vL (W:World)(a b:aV)  : Calls Tryz.prog 267 #[.agg #[.int .i64 a.rep,.int .i64 a.num],.agg #[.int .i64 b.rep,.int .i64 b.num]] W fun e w'=>e=.returned (.bool (nf a b))∧Sat W w' []:=by
 refine enter Tryz.func267 rfl rfl rfl (.cons (i:=0) rfl (.cons (i:=1) rfl .nil)) ?_;have hS:=Sat.start W;refine uC 2 ?_;refine uB rfl hS ?_;clear hS;intro b2 w hS;refine uB rfl hS ?_;clear hS;intro b3 w hS;refine uO 5 ?_;refine u1 0 (aa rfl bw) ?_;refine u1 0 (ld rfl aQ) ?_;refine u1 0 (aa rfl bw) ?_;refine u1 0 (ld rfl aQ) ?_;refine aR 0 0 (aw rfl rfl) ?_ ?_
 ·intro h9;refine uO 18 ?_;refine aX ?_;refine⟨?_,hS.nil⟩;unfold nf
  congr 2
  rw[Bool.eq_iff_iff];simp only[Bool.and_eq_true,Bool.or_eq_true,decide_eq_true_eq,Bool.false_eq_true,false_iff,true_iff];omega
 ·intro h9;refine uO 1 ?_;refine u1 0 (aa rfl bw) ?_;refine u1 0 (ld rfl aQ) ?_;refine u1 0 (aa rfl bw) ?_;refine u1 0 (ld rfl aQ) ?_;refine aR 0 0 (bn rfl rfl) ?_ ?_
  ·intro h15;refine uO 1 ?_;refine u1 0 (aa rfl bQ) ?_;refine u1 0 (ld rfl aQ) ?_;refine u1 0 (aa rfl bQ) ?_;refine u1 0 (ld rfl aQ) ?_;refine u1 6 (aw rfl rfl) ?_;refine aX ?_;refine⟨?_,hS.nil⟩;unfold nf
   congr 2
   rw[Bool.eq_iff_iff];simp only[Bool.and_eq_true,Bool.or_eq_true,decide_eq_true_eq,Bool.false_eq_true,false_iff,true_iff];omega
  ·intro h15;refine uO 12 ?_;refine aX ?_;refine⟨?_,hS.nil⟩;unfold nf
   congr 2
   rw[Bool.eq_iff_iff];simp only[Bool.and_eq_true,Bool.or_eq_true,decide_eq_true_eq,Bool.false_eq_true,false_iff,true_iff];omega
theorem rR (W:World)(e1:aV)  : Calls Tryz.prog 155 #[.agg #[.int .i64 e1.rep,.int .i64 e1.num,.string e1.cy,.int .i64 e1.p4]] W fun e w'=>e=.returned (.int .i64 (mE e1))∧Sat W w' []:=by
 refine enter Tryz.func155 rfl rfl rfl (.cons (i:=0) rfl .nil) ?_;have hS:=Sat.start W;refine uC 2 ?_;refine uB rfl hS ?_;clear hS;intro b1 w hS;refine uO 7 ?_;refine u1 0 (aa rfl cm) ?_;refine u1 0 (aa rfl bw) ?_;refine u1 0 (ld rfl aQ) ?_;refine aR 0 0 (aw rfl rfl) ?_ ?_
 ·intro h7;refine uO 18 ?_;refine aX ?_;refine⟨?_,hS.nil⟩;unfold mE;rw[if_pos (by omega)]
 ·intro h7;refine uO 1 ?_;refine u1 0 (aa rfl cm) ?_;refine u1 0 (aa rfl bw) ?_;refine u1 0 (ld rfl aQ) ?_;refine aR 0 0 (eo rfl rfl) ?_ ?_
  ·intro h12;refine uO 13 ?_;refine aX ?_;refine⟨?_,hS.nil⟩;unfold mE;rw[if_pos (by omega)]
  ·intro h12;refine uO 7 ?_;refine u1 0 (aa rfl cm) ?_;refine u1 0 (aa rfl bQ) ?_;refine u1 0 (ld rfl aQ) ?_;refine aR 0 0 (aw rfl rfl) ?_ ?_
   ·intro h18;refine uO 15 ?_;intro a hA;replace hA:=hA.kp [2] rfl;refine rC 3 hA ?_;clear hA a;refine aX ?_;refine⟨?_,hS.nil⟩;unfold mE;rw[if_neg (by omega),if_pos (by omega)]
   ·intro h18;refine uO 1 ?_;refine u1 0 (aa rfl cm) ?_;refine u1 0 (aa rfl bQ) ?_;refine u1 0 (ld rfl aQ) ?_;refine aR 0 0 (dv rfl rfl) ?_ ?_
    ·intro h23;refine uO 10 ?_;intro a hA;replace hA:=hA.kp [2] rfl;refine rC 3 hA ?_;clear hA a;refine aX ?_;refine⟨?_,hS.nil⟩;unfold mE;rw[if_neg (by omega),if_pos (by omega)]
    ·intro h23;refine uO 7 ?_;refine u1 0 (aa rfl jt) ?_;refine u1 0 (ld rfl lq) ?_;refine uF Gz rfl (o6 _ e1.cy) ?_;rintro e w ⟨rfl,hT⟩;replace hS:Sat _ _ _:=hS.ai hT;clear hT;generalize h28:(mv e1.cy)=bb;cases bb
     ·refine⟨_,rfl,?_⟩;refine u1 3 (aM rfl) ?_;intro a hA;replace hA:=hA.kp [1,2,25] rfl;refine rC 9 hA ?_;clear hA a;refine aX ?_;refine⟨?_,hS.nil⟩;unfold mE;rw[if_neg (by omega),if_neg (by omega),if_pos h28]
     ·refine⟨_,rfl,?_⟩;refine u1 3 (aM rfl) ?_;intro a hA;replace hA:=hA.kp [1,2,25] rfl;refine rC 3 hA ?_;clear hA a;refine u1 0 (aa rfl ij) ?_;refine u1 0 (ld rfl aQ) ?_;refine aR 0 0 (aw rfl rfl) ?_ ?_
      ·intro h33;refine uO 17 ?_;refine aX ?_;refine⟨?_,hS.nil⟩;unfold mE;rw[if_neg (by omega),if_neg (by omega),if_neg (by rw[h28];simp),if_pos (by omega)]
      ·intro h33;refine uO 1 ?_;refine u1 0 (aa rfl ij) ?_;refine u1 0 (ld rfl aQ) ?_;refine aR 0 0 (dv rfl rfl) ?_ ?_
       ·intro h37;refine uO 13 ?_;refine aX ?_;refine⟨?_,hS.nil⟩;unfold mE;rw[if_neg (by omega),if_neg (by omega),if_neg (by rw[h28];simp),if_pos (by omega)]
       ·intro h37;refine uO 14 ?_;refine aX ?_;refine⟨?_,hS.nil⟩;unfold mE;rw[if_neg (by omega),if_neg (by omega),if_neg (by rw[h28];simp),if_neg (by omega)]
theorem qd (W:World)(e1:aV)  : Calls Tryz.prog 225 #[.agg #[.int .i64 e1.rep,.int .i64 e1.num,.string e1.cy,.int .i64 e1.p4]] W fun e w'=>e=.returned (.int .i64 (mE e1))∧Sat W w' []:=by
 refine enter Tryz.func225 rfl rfl rfl (.cons (i:=0) rfl .nil) ?_;have hS:=Sat.start W;refine uC 2 ?_;refine uB rfl hS ?_;clear hS;intro b1 w hS;refine uO 7 ?_;refine u1 0 (aa rfl cm) ?_;refine u1 0 (aa rfl bw) ?_;refine u1 0 (ld rfl aQ) ?_;refine aR 0 0 (aw rfl rfl) ?_ ?_
 ·intro h7;refine uO 18 ?_;refine aX ?_;refine⟨?_,hS.nil⟩;unfold mE;rw[if_pos (by omega)]
 ·intro h7;refine uO 1 ?_;refine u1 0 (aa rfl cm) ?_;refine u1 0 (aa rfl bw) ?_;refine u1 0 (ld rfl aQ) ?_;refine aR 0 0 (eo rfl rfl) ?_ ?_
  ·intro h12;refine uO 13 ?_;refine aX ?_;refine⟨?_,hS.nil⟩;unfold mE;rw[if_pos (by omega)]
  ·intro h12;refine uO 7 ?_;refine u1 0 (aa rfl cm) ?_;refine u1 0 (aa rfl bQ) ?_;refine u1 0 (ld rfl aQ) ?_;refine aR 0 0 (aw rfl rfl) ?_ ?_
   ·intro h18;refine uO 15 ?_;intro a hA;replace hA:=hA.kp [2] rfl;refine rC 3 hA ?_;clear hA a;refine aX ?_;refine⟨?_,hS.nil⟩;unfold mE;rw[if_neg (by omega),if_pos (by omega)]
   ·intro h18;refine uO 1 ?_;refine u1 0 (aa rfl cm) ?_;refine u1 0 (aa rfl bQ) ?_;refine u1 0 (ld rfl aQ) ?_;refine aR 0 0 (dv rfl rfl) ?_ ?_
    ·intro h23;refine uO 10 ?_;intro a hA;replace hA:=hA.kp [2] rfl;refine rC 3 hA ?_;clear hA a;refine aX ?_;refine⟨?_,hS.nil⟩;unfold mE;rw[if_neg (by omega),if_pos (by omega)]
    ·intro h23;refine uO 7 ?_;refine u1 0 (aa rfl jt) ?_;refine u1 0 (ld rfl lq) ?_;refine uF yZ rfl (gi _ e1.cy) ?_;rintro e w ⟨rfl,hT⟩;replace hS:Sat _ _ _:=hS.ai hT;clear hT;generalize h28:(mv e1.cy)=bb;cases bb
     ·refine⟨_,rfl,?_⟩;refine u1 3 (aM rfl) ?_;intro a hA;replace hA:=hA.kp [1,2,25] rfl;refine rC 9 hA ?_;clear hA a;refine aX ?_;refine⟨?_,hS.nil⟩;unfold mE;rw[if_neg (by omega),if_neg (by omega),if_pos h28]
     ·refine⟨_,rfl,?_⟩;refine u1 3 (aM rfl) ?_;intro a hA;replace hA:=hA.kp [1,2,25] rfl;refine rC 3 hA ?_;clear hA a;refine u1 0 (aa rfl ij) ?_;refine u1 0 (ld rfl aQ) ?_;refine aR 0 0 (aw rfl rfl) ?_ ?_
      ·intro h33;refine uO 17 ?_;refine aX ?_;refine⟨?_,hS.nil⟩;unfold mE;rw[if_neg (by omega),if_neg (by omega),if_neg (by rw[h28];simp),if_pos (by omega)]
      ·intro h33;refine uO 1 ?_;refine u1 0 (aa rfl ij) ?_;refine u1 0 (ld rfl aQ) ?_;refine aR 0 0 (dv rfl rfl) ?_ ?_
       ·intro h37;refine uO 13 ?_;refine aX ?_;refine⟨?_,hS.nil⟩;unfold mE;rw[if_neg (by omega),if_neg (by omega),if_neg (by rw[h28];simp),if_pos (by omega)]
       ·intro h37;refine uO 14 ?_;refine aX ?_;refine⟨?_,hS.nil⟩;unfold mE;rw[if_neg (by omega),if_neg (by omega),if_neg (by rw[h28];simp),if_neg (by omega)]
theorem xB (W:World)(e1:aV)  : Calls Tryz.prog 266 #[.agg #[.int .i64 e1.rep,.int .i64 e1.num,.string e1.cy,.int .i64 e1.p4]] W fun e w'=>e=.returned (.bool (fU e1))∧Sat W w' []:=by
 refine enter Tryz.func266 rfl rfl rfl (.cons (i:=0) rfl .nil) ?_;have hS:=Sat.start W;refine uC 2 ?_;refine uB rfl hS ?_;clear hS;intro b1 w hS;refine uO 5 ?_;refine u1 0 (aa rfl cm) ?_;refine u1 0 (ad (cs:=[_,_]) rfl gk dZ (by exact hS.ag (xs:=[_,_]) rfl)) ?_;refine uF DS rfl (mU _ e1.rep e1.num) ?_;rintro e w ⟨rfl,hT⟩;replace hS:Sat _ _ _:=hS.ai hT;clear hT;generalize h5:(dD e1.rep e1.num)=bb;cases bb
 ·refine⟨_,rfl,?_⟩;refine uO 19 ?_;refine aX ?_;refine⟨?_,hS.nil⟩;unfold fU;rw[h5];rfl
 ·refine⟨_,rfl,?_⟩;refine uO 1 ?_;refine u1 0 (aa rfl jt) ?_;refine u1 0 (ld rfl lq) ?_;intro a hA;refine dQ hA (ao hA rfl rfl rfl) rfl yZ rfl (gi _ e1.cy) ?_;clear hA a;rintro e w ⟨rfl,hT⟩;replace hS:Sat _ _ _:=hS.ai hT;clear hT;generalize h9:(mv e1.cy)=bb;cases bb
  ·refine⟨_,rfl,?_⟩;refine uO 15 ?_;refine aX ?_;refine⟨?_,hS.nil⟩;unfold fU;rw[h5,h9];rfl
  ·refine⟨_,rfl,?_⟩;refine uO 2 ?_;refine u1 0 (aa rfl ij) ?_;refine u1 0 (ld rfl aQ) ?_;refine aR 0 0 (eo rfl rfl) ?_ ?_
   ·intro h14;refine uO 2 ?_;refine u1 0 (aa rfl ij) ?_;refine u1 0 (ld rfl aQ) ?_;refine u1 5 (du rfl rfl) ?_;refine aX ?_;refine⟨?_,hS.nil⟩;unfold fU;rw[h5,h9]
    congr 2
    rw[Bool.eq_iff_iff];simp;omega
   ·intro h14;refine uO 10 ?_;refine aX ?_;refine⟨?_,hS.nil⟩;unfold fU;rw[h5,h9]
    congr 2
    rw[Bool.eq_iff_iff];simp;omega
theorem gE (W:World)(A:Option Addr)(c:Nat)(xs:List aV)(hR:fI W A c xs)(hl:xs.length≤1000000000000):Calls Tryz.prog 120 #[.slice A (xs).length c] W fun e w'=>e=.returned (.int .i64 (if cd xs=true then 0 else 1))∧Sat W w' []:=by
 refine enter Tryz.func120 rfl rfl rfl (.cons (i:=0) rfl .nil) ?_;have hS:=Sat.start W;refine uC 9 ?_;refine u1 4 (ar rfl bA) ?_;intro a hA;refine wp_loop_ghost (fun (mm:Nat) a w=>∃(i:Nat),Ag a 32 [(0,.slice A (xs).length c),(5,.slice A (xs).length c),(6,.int .i64 ((xs.length:Nat):Int)),(7,.int .i64 ((i:Nat):Int))]∧Sat W w ([])∧(i≤xs.length)∧(∀j x,j<i→xs[j]?=some x→eK (ahead none xs j) x=true)∧mm=xs.length-i) xs.length ?_ ?_
 ·replace hA:=hA.kp [0,5,6,7] rfl;exact⟨0,hA,hS,(by omega),(by intro j x hj;omega),by omega⟩
 intro m a w hI;clear hS hA;obtain⟨i,hA,hS,hi,he,rfl⟩:=hI;refine rC 2 hA ?_;clear hA a;refine aR 0 0 (aw rfl rfl) ?_ ?_
 ·intro h8;refine uO 11 ?_;obtain⟨A_p,rfl⟩:∃q,A=some q:=(hR.sat hS).av (by omega);obtain⟨x,hx⟩:∃zz_,xs[i]?=some zz_:=⟨_,List.getElem?_eq_getElem (by omega)⟩;refine u1 0 (aj rfl rfl bA cX (by omega) (by omega)) ?_;refine u1 0 (ad (cs:=mC x) rfl ml cX (fun j u e=>bJ (hR.sat hS) (cP hx j u e))) ?_;refine uN BY hS ?_;clear hS;intro b4 w hS;refine uO 1 ?_;refine uW (vs:=[_,_,_,_]) (cs':=[_,_,_,_]) rfl rfl cX hS ?_;clear hS;intro w hS;refine uO 3 ?_;intro a hA;refine bh [15] hS (by kernel_rfl) ?_;replace hS:=hS.drew;refine X1 0 [] hA rfl (by exact⟨[],hS⟩) (fun w hT=>have hS:=hT.sat;(ad (cs:=[_,_,_,_]) (hA.ev rfl) ml cX (by exact hS.ag (xs:=[_,_,_,_]) rfl))) ?_;clear hA a;intro a hA;refine aG 1 (by kernel_rfl) ?_;refine eF hA rfl rfl JO rfl (rR _ x) ?_
  clear hA a;rintro e w ⟨rfl,hT⟩;replace hS:Sat _ _ _:=hS.ai hT;clear hT;refine⟨_,rfl,?_⟩;intro a hA;refine⟨.inr fun _=>(by exact⟨[],hS⟩),?_⟩;refine K.GW 2 hA pk rfl rfl rfl rfl (by kernel_rfl) (by kernel_rfl) (by kernel_rfl) (fun w=>(aK (hA.ev rfl) (hA.ev rfl))) ?_ ?_
  ·clear hA a;intro h14;refine uX [3,4,5,6,7,8,9,10,11,12,13,14,15,16,17,18] ?_;intro a hA;refine ak (by kernel_rfl) ?_ _;refine rE 13 hA ?_;clear hA a;refine aX ?_;have hok:fU x=false:=by rw[←jK];simpa using h14
   have hst:eK (ahead none xs i) x=false:=by unfold eK;rw[hok];rfl
   have hf:cd xs=false:=dG hx hst;exact⟨by simp[hf],hS.nil⟩
  ·clear hA a;intro h14;refine uX [3,4] ?_;intro a hA;refine K.D4 5 hA pk rfl (ao hA rfl rfl rfl) rfl rfl (by kernel_rfl) (by kernel_rfl) (by kernel_rfl) (fun w=>(dv (hA.ev rfl) (hA.ev rfl))) ?_ ?_
   ·clear hA a;intro h17;refine uX [6,7,8] ?_;refine bz 9 [] rfl (fun w=>(aJ (aZ rfl rfl (by omega) (by omega)) (show _=Value.int .i64 ((i-1:Nat):Int) from congrArg (Value.int .i64) (by omega)))) ?_;obtain⟨y,hy⟩:∃zz_,xs[i-1]?=some zz_:=⟨_,List.getElem?_eq_getElem (by omega)⟩;refine bz 10 [] rfl (fun w=>(aj rfl rfl bA cX (by omega) (by omega))) ?_;refine bz 11 [] rfl (fun w=>(aA rfl cm)) ?_;refine cT 12 [] rfl (by exact⟨[],hS⟩) (fun w hT=>have hS:=hT.sat;(ad (cs:=[.int .i64 y.rep,.int .i64 y.num]) rfl gk dZ (fun j u e=>kV (hR.sat hS) (cP hy _ u (jr y j u e))))) ?_;refine bz 13 [] rfl (fun w=>(aa rfl cm)) ?_;refine cT 14 [] rfl (by exact⟨[],hS⟩) (fun w hT=>have hS:=hT.sat;(ad (cs:=[_,_]) rfl gk dZ (by exact hS.ag (xs:=[_,_]) rfl))) ?_;intro a hA;refine aG 15 (by kernel_rfl) ?_
    refine Fc hA rfl (ao hA rfl rfl rfl) rfl KU rfl (xl _ y x) ?_;clear hA a;rintro e w ⟨rfl,hT⟩;replace hS:Sat _ _ _:=hS.ai hT;clear hT;refine⟨_,rfl,?_⟩;intro a hA;refine⟨.inl rfl,?_⟩;refine K.C7 16 hA pk rfl (ao hA rfl rfl rfl) rfl rfl (by kernel_rfl) (by kernel_rfl) (by kernel_rfl) (fun w=>(aM (hA.ev rfl))) ?_ ?_
    ·clear hA a;intro h28;intro a hA;simp only[decide_eq_decide,decide_eq_true_eq,decide_eq_false_iff_not,Bool.not_eq_true',Bool.not_eq_false',bne_iff_ne,ne_eq,beq_iff_eq,Bool.not_eq_true,Bool.not_eq_false]at h28;refine rX [17,18] hA ?_;clear hA a;intro a hA;refine ak (by kernel_rfl) ?_ _;refine rE 13 hA ?_;clear hA a;refine aX ?_;have hok:fU x=true:=by rw[←jK];simpa using h14
     have hst:eK (ahead none xs i) x=false:=by
      unfold eK ahead;rw[if_neg (by omega),hy,hok];simpa using h28
     have hf:cd xs=false:=dG hx hst;exact⟨by simp[hf],hS.nil⟩
    ·clear hA a;intro h28;intro a hA;simp only[decide_eq_decide,decide_eq_true_eq,decide_eq_false_iff_not,Bool.not_eq_true',Bool.not_eq_false',bne_iff_ne,ne_eq,beq_iff_eq,Bool.not_eq_true,Bool.not_eq_false]at h28;refine rX [17,18] hA ?_;clear hA a;intro a hA;refine ak (by kernel_rfl) ?_ _;refine rE 6 hA ?_;clear hA a;refine u1 2 (ah rfl rfl (by omega) (by omega)) ?_;intro a hA;replace hA:=hA.kp [0,5,6,7] rfl;have hok:fU x=true:=by rw[←jK];simpa using h14
     have hst:eK (ahead none xs i) x=true:=by
      unfold eK ahead;rw[if_neg (by omega),hy,hok];simpa using h28
     exact⟨xs.length-(i+1),by omega,i+1,hA,hS.nil,by omega,fun j z hj hz=>(by rcases Nat.lt_or_ge j i with h | h;exact he j z h hz;obtain rfl:j=i:=(by omega);rw[hx]at hz;cases hz;exact hst),rfl⟩
   ·clear hA a;intro h17;refine uX [6,7,8,9,10,11,12,13,14,15,16,17,18] ?_;intro a hA;refine ak (by kernel_rfl) ?_ _;refine rE 6 hA ?_;clear hA a;refine u1 2 (ah rfl rfl (by omega) (by omega)) ?_;intro a hA;replace hA:=hA.kp [0,5,6,7] rfl;have hok:fU x=true:=by rw[←jK];simpa using h14
    have hst:eK (ahead none xs i) x=true:=by
     obtain rfl:i=0:=by omega
     unfold eK ahead;rw[hok];rfl
    exact⟨xs.length-(i+1),by omega,i+1,hA,hS.nil,by omega,fun j z hj hz=>(by rcases Nat.lt_or_ge j i with h | h;exact he j z h hz;obtain rfl:j=i:=(by omega);rw[hx]at hz;cases hz;exact hst),rfl⟩
 ·intro h8;refine uO 15 ?_;refine aX ?_;obtain rfl:i=xs.length:=by omega
  have hf:cd xs=true:=df fun j x hx=>he j x (List.getElem?_eq_some_iff.1 hx).1 hx
  exact⟨by simp[hf],hS.nil⟩
theorem vA (W:World)(A:Option Addr)(c:Nat)(xs:List aV)(hR:fI W A c xs)(hl:xs.length≤1000000000000):Calls Tryz.prog 179 #[.slice A (xs).length c] W fun e w'=>e=.returned (.int .i64 (if cd xs=true then 0 else 1))∧Sat W w' []:=by
 refine enter Tryz.func179 rfl rfl rfl (.cons (i:=0) rfl .nil) ?_;have hS:=Sat.start W;refine uC 12 ?_;intro a hA;refine wp_loop_ghost (fun (mm:Nat) a w=>∃(i:Nat),Ag a 33 [(0,.slice A (xs).length c),(3,.int .i64 ((i:Nat):Int))]∧Sat W w ([])∧(i≤xs.length)∧(∀j x,j<i→xs[j]?=some x→eK (ahead none xs j) x=true)∧mm=xs.length-i) xs.length ?_ ?_
 ·replace hA:=hA.kp [0,3] rfl;exact⟨0,hA,hS,(by omega),(by intro j x hj;omega),by omega⟩
 intro m a w hI;clear hS hA;obtain⟨i,hA,hS,hi,he,rfl⟩:=hI;refine rC 5 hA ?_;clear hA a;refine u1 0 (ar rfl bA) ?_;refine aR 0 0 (aw rfl rfl) ?_ ?_
 ·intro h7;refine uO 12 ?_;obtain⟨A_p,rfl⟩:∃q,A=some q:=(hR.sat hS).av (by omega);obtain⟨x,hx⟩:∃zz_,xs[i]?=some zz_:=⟨_,List.getElem?_eq_getElem (by omega)⟩;refine u1 0 (aj rfl rfl bA cX (by omega) (by omega)) ?_;refine u1 0 (ad (cs:=mC x) rfl ml cX (fun j u e=>bJ (hR.sat hS) (cP hx j u e))) ?_;refine uF IS rfl (qd _ x) ?_;rintro e w ⟨rfl,hT⟩;replace hS:Sat _ _ _:=hS.ai hT;clear hT;refine⟨_,rfl,?_⟩;refine aR 0 0 (aK rfl rfl) ?_ ?_
  ·intro h15;refine uO 15 ?_;refine aX ?_;have hok:fU x=false:=by rw[←jK];simpa using h15
   have hst:eK (ahead none xs i) x=false:=by unfold eK;rw[hok];rfl
   have hf:cd xs=false:=dG hx hst;exact⟨by simp[hf],hS.nil⟩
  ·intro h15;refine uO 6 ?_;intro a hA;refine bh [14] hS (by kernel_rfl) ?_;replace hS:=hS.drew;refine rX [0] hA ?_;clear hA a;intro a hA;refine K.GW 1 hA pk rfl rfl rfl rfl (by kernel_rfl) (by kernel_rfl) (by kernel_rfl) (fun w=>(dv (hA.ev rfl) (hA.ev rfl))) ?_ ?_
   ·clear hA a;intro h17;refine uX [2,3,4] ?_;refine bz 5 [] rfl (fun w=>(aJ (aZ rfl rfl (by omega) (by omega)) (show _=Value.int .i64 ((i-1:Nat):Int) from congrArg (Value.int .i64) (by omega)))) ?_;obtain⟨y,hy⟩:∃zz_,xs[i-1]?=some zz_:=⟨_,List.getElem?_eq_getElem (by omega)⟩
    refine bz 6 [] rfl (fun w=>(aj rfl rfl bA cX (by omega) (by omega))) ?_;refine bz 7 [] rfl (fun w=>(aA rfl cm)) ?_;refine cT 8 [9,10] rfl (by exact⟨[],hS⟩) (fun w hT=>have hS:=hT.sat;(ad (cs:=[.int .i64 y.rep,.int .i64 y.num]) rfl gk dZ (fun j u e=>kV (hR.sat hS) (cP hy _ u (jr y j u e))))) ?_;refine bz 11 [] rfl (fun w=>(aj rfl rfl bA cX (by omega) (by omega))) ?_;refine bz 12 [] rfl (fun w=>(aA rfl cm)) ?_;refine cT 13 [] rfl (by exact⟨[],hS⟩) (fun w hT=>have hS:=hT.sat;(ad (cs:=[.int .i64 x.rep,.int .i64 x.num]) rfl gk dZ (fun j u e=>kV (hR.sat hS) (cP hx _ u (jr x j u e))))) ?_;intro a hA;refine aG 14 (by kernel_rfl) ?_;refine Fc hA rfl (ao hA rfl rfl rfl) rfl JL rfl (xN _ y x) ?_
    clear hA a;rintro e w ⟨rfl,hT⟩;replace hS:Sat _ _ _:=hS.ai hT;clear hT;refine⟨_,rfl,?_⟩;intro a hA;refine⟨.inl rfl,?_⟩;refine K.C7 15 hA pk rfl (ao hA rfl rfl rfl) rfl rfl (by kernel_rfl) (by kernel_rfl) (by kernel_rfl) (fun w=>(aM (hA.ev rfl))) ?_ ?_
    ·clear hA a;intro h31;intro a hA;simp only[decide_eq_decide,decide_eq_true_eq,decide_eq_false_iff_not,Bool.not_eq_true',Bool.not_eq_false',bne_iff_ne,ne_eq,beq_iff_eq,Bool.not_eq_true,Bool.not_eq_false]at h31;refine rX [16] hA ?_;clear hA a;intro a hA;refine ak (by kernel_rfl) ?_ _;refine rE 13 hA ?_;clear hA a;refine aX ?_;have hok:fU x=true:=by rw[←jK];simpa using h15
     have hst:eK (ahead none xs i) x=false:=by
      unfold eK ahead;rw[if_neg (by omega),hy,hok];simpa using h31
     have hf:cd xs=false:=dG hx hst;exact⟨by simp[hf],hS.nil⟩
    ·clear hA a;intro h31;intro a hA;simp only[decide_eq_decide,decide_eq_true_eq,decide_eq_false_iff_not,Bool.not_eq_true',Bool.not_eq_false',bne_iff_ne,ne_eq,beq_iff_eq,Bool.not_eq_true,Bool.not_eq_false]at h31;refine rX [16] hA ?_;clear hA a;intro a hA;refine ak (by kernel_rfl) ?_ _;refine rE 7 hA ?_;clear hA a;refine u1 2 (ah rfl rfl (by omega) (by omega)) ?_;intro a hA;replace hA:=hA.kp [0,3] rfl;have hok:fU x=true:=by rw[←jK];simpa using h15
     have hst:eK (ahead none xs i) x=true:=by
      unfold eK ahead;rw[if_neg (by omega),hy,hok];simpa using h31
     exact⟨xs.length-(i+1),by omega,i+1,hA,hS.nil,by omega,fun j z hj hz=>(by rcases Nat.lt_or_ge j i with h | h;exact he j z h hz;obtain rfl:j=i:=(by omega);rw[hx]at hz;cases hz;exact hst),rfl⟩
   ·clear hA a;intro h17;refine uX [2,3,4,5,6,7,8,9,10,11,12,13,14,15,16] ?_;intro a hA;refine ak (by kernel_rfl) ?_ _;refine rE 7 hA ?_;clear hA a;refine u1 2 (ah rfl rfl (by omega) (by omega)) ?_;intro a hA;replace hA:=hA.kp [0,3] rfl;have hok:fU x=true:=by rw[←jK];simpa using h15
    have hst:eK (ahead none xs i) x=true:=by
     obtain rfl:i=0:=by omega
     unfold eK ahead;rw[hok];rfl
    exact⟨xs.length-(i+1),by omega,i+1,hA,hS.nil,by omega,fun j z hj hz=>(by rcases Nat.lt_or_ge j i with h | h;exact he j z h hz;obtain rfl:j=i:=(by omega);rw[hx]at hz;cases hz;exact hst),rfl⟩
 ·intro h7;refine uO 14 ?_;refine aX ?_;obtain rfl:i=xs.length:=by omega
  have hf:cd xs=true:=df fun j x hx=>he j x (List.getElem?_eq_some_iff.1 hx).1 hx
  exact⟨by simp[hf],hS.nil⟩
theorem vi (W:World)(A:Option Addr)(c:Nat)(xs:List aV)(hR:fI W A c xs)(hl:xs.length≤1000000000000):Calls Tryz.prog 230 #[.slice A (xs).length c] W fun e w'=>e=.returned (.bool (cd xs))∧Sat W w' []:=by
 refine enter Tryz.func230 rfl rfl rfl (.cons (i:=0) rfl .nil) ?_;have hS:=Sat.start W;refine uC 12 ?_;intro a hA;refine wp_loop_ghost (fun (mm:Nat) a w=>∃(i:Nat),Ag a 59 [(0,.slice A (xs).length c),(3,.int .i64 ((i:Nat):Int))]∧Sat W w ([])∧(i≤xs.length)∧(∀j x,j<i→xs[j]?=some x→eK (ahead none xs j) x=true)∧mm=xs.length-i) xs.length ?_ ?_
 ·replace hA:=hA.kp [0,3] rfl;exact⟨0,hA,hS,(by omega),(by intro j x hj;omega),by omega⟩
 intro m a w hI;clear hS hA;obtain⟨i,hA,hS,hi,he,rfl⟩:=hI;refine rC 5 hA ?_;clear hA a;refine u1 0 (ar rfl bA) ?_;refine aR 0 0 (aw rfl rfl) ?_ ?_
 ·intro h7;refine uO 12 ?_;obtain⟨A_p,rfl⟩:∃q,A=some q:=(hR.sat hS).av (by omega);obtain⟨x,hx⟩:∃zz_,xs[i]?=some zz_:=⟨_,List.getElem?_eq_getElem (by omega)⟩;refine u1 0 (aj rfl rfl bA cX (by omega) (by omega)) ?_;refine u1 0 (aA rfl cm) ?_;refine u1 0 (ad (cs:=[.int .i64 x.rep,.int .i64 x.num]) rfl gk dZ (fun j u e=>kV (hR.sat hS) (cP hx _ u (jr x j u e)))) ?_;refine uF DS rfl (mU _ x.rep x.num) ?_;rintro e w ⟨rfl,hT⟩;replace hS:Sat _ _ _:=hS.ai hT;clear hT;generalize h15:(dD x.rep x.num)=bb;cases bb
  ·refine⟨_,rfl,?_⟩;refine u1 40 (aM rfl) ?_;refine aX ?_
   have hok:fU x=false:=by
    unfold fU;rw[h15];rfl
   have hst:eK (ahead none xs i) x=false:=by unfold eK;rw[hok];rfl
   have hf:cd xs=false:=dG hx hst;exact⟨by simp[hf],hS.nil⟩
  ·refine⟨_,rfl,?_⟩;refine u1 3 (aM rfl) ?_;refine u1 0 (aj rfl rfl bA cX (by omega) (by omega)) ?_;refine u1 0 (aA rfl jt) ?_;refine u1 0 (aq rfl lq (bJ (hR.sat hS) (cP hx 2 _ rfl))) ?_;intro a hA;refine dQ hA (ao hA rfl rfl rfl) rfl yZ rfl (gi _ x.cy) ?_;clear hA a;rintro e w ⟨rfl,hT⟩;replace hS:Sat _ _ _:=hS.ai hT;clear hT;generalize h23:(mv x.cy)=bb;cases bb
   ·refine⟨_,rfl,?_⟩;refine u1 32 (aM rfl) ?_;refine aX ?_
    have hok:fU x=false:=by
     unfold fU;rw[h15,h23];rfl
    have hst:eK (ahead none xs i) x=false:=by unfold eK;rw[hok];rfl
    have hf:cd xs=false:=dG hx hst;exact⟨by simp[hf],hS.nil⟩
   ·refine⟨_,rfl,?_⟩;refine u1 4 (aM rfl) ?_;refine u1 0 (aj rfl rfl bA cX (by omega) (by omega)) ?_;refine u1 0 (aA rfl ij) ?_;refine u1 0 (aq rfl aQ (bJ (hR.sat hS) (cP hx 3 _ rfl))) ?_;refine aR 0 0 (aw rfl rfl) ?_ ?_
    ·intro h32;refine uO 24 ?_;refine aX ?_
     have hok:fU x=false:=by
      unfold fU;rw[h15,h23];simp<;>omega
     have hst:eK (ahead none xs i) x=false:=by unfold eK;rw[hok];rfl
     have hf:cd xs=false:=dG hx hst;exact⟨by simp[hf],hS.nil⟩
    ·intro h32;refine uO 4 ?_;refine u1 0 (aj rfl rfl bA cX (by omega) (by omega)) ?_;refine u1 0 (aA rfl ij) ?_;refine u1 0 (aq rfl aQ (bJ (hR.sat hS) (cP hx 3 _ rfl))) ?_;refine aR 0 0 (dv rfl rfl) ?_ ?_
     ·intro h40;refine uO 16 ?_;refine aX ?_
      have hok:fU x=false:=by
       unfold fU;rw[h15,h23];simp<;>omega
      have hst:eK (ahead none xs i) x=false:=by unfold eK;rw[hok];rfl
      have hf:cd xs=false:=dG hx hst;exact⟨by simp[hf],hS.nil⟩
     ·intro h40;refine uO 7 ?_;intro a hA;refine bh [14] hS (by kernel_rfl) ?_;replace hS:=hS.drew;refine rX [0] hA ?_;clear hA a;intro a hA;refine K.GW 1 hA pk rfl rfl rfl rfl (by kernel_rfl) (by kernel_rfl) (by kernel_rfl) (fun w=>(dv (hA.ev rfl) (hA.ev rfl))) ?_ ?_
      ·clear hA a;intro h43;refine uX [2,3,4] ?_;refine bz 5 [] rfl (fun w=>(aJ (aZ rfl rfl (by omega) (by omega)) (show _=Value.int .i64 ((i-1:Nat):Int) from congrArg (Value.int .i64) (by omega)))) ?_;obtain⟨y,hy⟩:∃zz_,xs[i-1]?=some zz_:=⟨_,List.getElem?_eq_getElem (by omega)⟩
       refine bz 6 [] rfl (fun w=>(aj rfl rfl bA cX (by omega) (by omega))) ?_;refine bz 7 [] rfl (fun w=>(aA rfl cm)) ?_;refine cT 8 [9,10] rfl (by exact⟨[],hS⟩) (fun w hT=>have hS:=hT.sat;(ad (cs:=[.int .i64 y.rep,.int .i64 y.num]) rfl gk dZ (fun j u e=>kV (hR.sat hS) (cP hy _ u (jr y j u e))))) ?_;refine bz 11 [] rfl (fun w=>(aj rfl rfl bA cX (by omega) (by omega))) ?_;refine bz 12 [] rfl (fun w=>(aA rfl cm)) ?_;refine cT 13 [] rfl (by exact⟨[],hS⟩) (fun w hT=>have hS:=hT.sat;(ad (cs:=[.int .i64 x.rep,.int .i64 x.num]) rfl gk dZ (fun j u e=>kV (hR.sat hS) (cP hx _ u (jr x j u e))))) ?_;intro a hA;refine aG 14 (by kernel_rfl) ?_;refine Fc hA rfl (ao hA rfl rfl rfl) rfl Kt rfl (xp _ y x) ?_
       clear hA a;rintro e w ⟨rfl,hT⟩;replace hS:Sat _ _ _:=hS.ai hT;clear hT;refine⟨_,rfl,?_⟩;intro a hA;refine⟨.inl rfl,?_⟩;refine K.C7 15 hA pk rfl (ao hA rfl rfl rfl) rfl rfl (by kernel_rfl) (by kernel_rfl) (by kernel_rfl) (fun w=>(aM (hA.ev rfl))) ?_ ?_
       ·clear hA a;intro h57;intro a hA;simp only[decide_eq_decide,decide_eq_true_eq,decide_eq_false_iff_not,Bool.not_eq_true',Bool.not_eq_false',bne_iff_ne,ne_eq,beq_iff_eq,Bool.not_eq_true,Bool.not_eq_false]at h57;refine rX [16] hA ?_;clear hA a;intro a hA;refine ak (by kernel_rfl) ?_ _;refine rE 13 hA ?_;clear hA a;refine aX ?_
        have hok:fU x=true:=by
         unfold fU;rw[h15,h23];simp<;>omega
        have hst:eK (ahead none xs i) x=false:=by
         unfold eK ahead;rw[if_neg (by omega),hy,hok];simpa using h57
        have hf:cd xs=false:=dG hx hst;exact⟨by simp[hf],hS.nil⟩
       ·clear hA a;intro h57;intro a hA;simp only[decide_eq_decide,decide_eq_true_eq,decide_eq_false_iff_not,Bool.not_eq_true',Bool.not_eq_false',bne_iff_ne,ne_eq,beq_iff_eq,Bool.not_eq_true,Bool.not_eq_false]at h57;refine rX [16] hA ?_;clear hA a;intro a hA;refine ak (by kernel_rfl) ?_ _;refine rE 7 hA ?_;clear hA a;refine u1 2 (ah rfl rfl (by omega) (by omega)) ?_;intro a hA;replace hA:=hA.kp [0,3] rfl
        have hok:fU x=true:=by
         unfold fU;rw[h15,h23];simp<;>omega
        have hst:eK (ahead none xs i) x=true:=by
         unfold eK ahead;rw[if_neg (by omega),hy,hok];simpa using h57
        exact⟨xs.length-(i+1),by omega,i+1,hA,hS.nil,by omega,fun j z hj hz=>(by rcases Nat.lt_or_ge j i with h | h;exact he j z h hz;obtain rfl:j=i:=(by omega);rw[hx]at hz;cases hz;exact hst),rfl⟩
      ·clear hA a;intro h43;refine uX [2,3,4,5,6,7,8,9,10,11,12,13,14,15,16] ?_;intro a hA;refine ak (by kernel_rfl) ?_ _;refine rE 7 hA ?_;clear hA a;refine u1 2 (ah rfl rfl (by omega) (by omega)) ?_;intro a hA;replace hA:=hA.kp [0,3] rfl
       have hok:fU x=true:=by
        unfold fU;rw[h15,h23];simp<;>omega
       have hst:eK (ahead none xs i) x=true:=by
        obtain rfl:i=0:=by omega
        unfold eK ahead;rw[hok];rfl
       exact⟨xs.length-(i+1),by omega,i+1,hA,hS.nil,by omega,fun j z hj hz=>(by rcases Nat.lt_or_ge j i with h | h;exact he j z h hz;obtain rfl:j=i:=(by omega);rw[hx]at hz;cases hz;exact hst),rfl⟩
 ·intro h7;refine uO 14 ?_;refine aX ?_;obtain rfl:i=xs.length:=by omega
  have hf:cd xs=true:=df fun j x hx=>he j x (List.getElem?_eq_some_iff.1 hx).1 hx
  exact⟨by simp[hf],hS.nil⟩
theorem vj (W:World)(A:Option Addr)(c:Nat)(xs:List aV)(hR:fI W A c xs)(hl:xs.length≤1000000000000):Calls Tryz.prog 234 #[.slice A (xs).length c] W fun e w'=>e=.returned (.bool (cd xs))∧Sat W w' []:=by
 refine enter Tryz.func234 rfl rfl rfl (.cons (i:=0) rfl .nil) ?_;have hS:=Sat.start W;refine uC 12 ?_;intro a hA;refine wp_loop_ghost (fun (mm:Nat) a w=>∃(i:Nat),Ag a 35 [(0,.slice A (xs).length c),(3,.int .i64 ((i:Nat):Int))]∧Sat W w ([])∧(i≤xs.length)∧(∀j x,j<i→xs[j]?=some x→eK (ahead none xs j) x=true)∧mm=xs.length-i) xs.length ?_ ?_
 ·replace hA:=hA.kp [0,3] rfl;exact⟨0,hA,hS,(by omega),(by intro j x hj;omega),by omega⟩
 intro m a w hI;clear hS hA;obtain⟨i,hA,hS,hi,he,rfl⟩:=hI;refine rC 5 hA ?_;clear hA a;refine u1 0 (ar rfl bA) ?_;refine aR 0 0 (aw rfl rfl) ?_ ?_
 ·intro h7;refine uO 8 ?_;intro a hA;refine bh [21] hS (by kernel_rfl) ?_;replace hS:=hS.drew;refine rX [0,1] hA ?_;clear hA a;obtain⟨A_p,rfl⟩:∃q,A=some q:=(hR.sat hS).av (by omega);obtain⟨x,hx⟩:∃zz_,xs[i]?=some zz_:=⟨_,List.getElem?_eq_getElem (by omega)⟩;refine bz 2 [] rfl (fun w=>(aj rfl rfl bA cX (by omega) (by omega))) ?_;refine cT 3 [] rfl (by exact⟨[],hS⟩) (fun w hT=>have hS:=hT.sat;(ad (cs:=mC x) rfl ml cX (fun j u e=>bJ (hR.sat hS) (cP hx j u e)))) ?_;intro a hA;refine aG 4 (by kernel_rfl) ?_;refine eF hA rfl rfl Kg rfl (xB _ x) ?_;clear hA a;rintro e w ⟨rfl,hT⟩;replace hS:Sat _ _ _:=hS.ai hT;clear hT;refine⟨_,rfl,?_⟩;intro a hA;refine⟨.inr fun _=>(by exact⟨[],hS⟩),?_⟩;refine K.LH 5 hA pk rfl rfl rfl rfl (by kernel_rfl) (by kernel_rfl) (by kernel_rfl) (fun w=>(aM (hA.ev rfl))) ?_ ?_
  ·clear hA a;intro h15;intro a hA;simp only[decide_eq_decide,decide_eq_true_eq,decide_eq_false_iff_not,Bool.not_eq_true',Bool.not_eq_false',bne_iff_ne,ne_eq,beq_iff_eq,Bool.not_eq_true,Bool.not_eq_false]at h15;refine rX [6,7,8,9,10,11,12,13,14,15,16,17,18,19,20,21,22,23,24] hA ?_;clear hA a;intro a hA;refine ak (by kernel_rfl) ?_ _;refine rE 13 hA ?_;clear hA a;refine aX ?_;have hok:fU x=false:=by simpa using h15
   have hst:eK (ahead none xs i) x=false:=by unfold eK;rw[hok];rfl
   have hf:cd xs=false:=dG hx hst;exact⟨by simp[hf],hS.nil⟩
  ·clear hA a;intro h15;intro a hA;simp only[decide_eq_decide,decide_eq_true_eq,decide_eq_false_iff_not,Bool.not_eq_true',Bool.not_eq_false',bne_iff_ne,ne_eq,beq_iff_eq,Bool.not_eq_true,Bool.not_eq_false]at h15;refine rX [6,7] hA ?_;clear hA a;intro a hA;refine K.D4 8 hA pk rfl (ao hA rfl rfl rfl) rfl rfl (by kernel_rfl) (by kernel_rfl) (by kernel_rfl) (fun w=>(dv (hA.ev rfl) (hA.ev rfl))) ?_ ?_
   ·clear hA a;intro h18;refine uX [9,10,11] ?_;refine bz 12 [] rfl (fun w=>(aJ (aZ rfl rfl (by omega) (by omega)) (show _=Value.int .i64 ((i-1:Nat):Int) from congrArg (Value.int .i64) (by omega)))) ?_;obtain⟨y,hy⟩:∃zz_,xs[i-1]?=some zz_:=⟨_,List.getElem?_eq_getElem (by omega)⟩
    refine bz 13 [] rfl (fun w=>(aj rfl rfl bA cX (by omega) (by omega))) ?_;refine bz 14 [] rfl (fun w=>(aA rfl cm)) ?_;refine cT 15 [16,17] rfl (by exact⟨[],hS⟩) (fun w hT=>have hS:=hT.sat;(ad (cs:=[.int .i64 y.rep,.int .i64 y.num]) rfl gk dZ (fun j u e=>kV (hR.sat hS) (cP hy _ u (jr y j u e))))) ?_;refine bz 18 [] rfl (fun w=>(aj rfl rfl bA cX (by omega) (by omega))) ?_;refine bz 19 [] rfl (fun w=>(aA rfl cm)) ?_;refine cT 20 [] rfl (by exact⟨[],hS⟩) (fun w hT=>have hS:=hT.sat;(ad (cs:=[.int .i64 x.rep,.int .i64 x.num]) rfl gk dZ (fun j u e=>kV (hR.sat hS) (cP hx _ u (jr x j u e))))) ?_;intro a hA;refine aG 21 (by kernel_rfl) ?_;refine Fc hA rfl (ao hA rfl rfl rfl) rfl KR rfl (vL _ y x) ?_
    clear hA a;rintro e w ⟨rfl,hT⟩;replace hS:Sat _ _ _:=hS.ai hT;clear hT;refine⟨_,rfl,?_⟩;intro a hA;refine⟨.inl rfl,?_⟩;refine K.C7 22 hA pk rfl (ao hA rfl rfl rfl) rfl rfl (by kernel_rfl) (by kernel_rfl) (by kernel_rfl) (fun w=>(aM (hA.ev rfl))) ?_ ?_
    ·clear hA a;intro h32;intro a hA;simp only[decide_eq_decide,decide_eq_true_eq,decide_eq_false_iff_not,Bool.not_eq_true',Bool.not_eq_false',bne_iff_ne,ne_eq,beq_iff_eq,Bool.not_eq_true,Bool.not_eq_false]at h32;refine rX [23,24] hA ?_;clear hA a;intro a hA;refine ak (by kernel_rfl) ?_ _;refine rE 13 hA ?_;clear hA a;refine aX ?_;have hok:fU x=true:=by simpa using h15
     have hst:eK (ahead none xs i) x=false:=by
      unfold eK ahead;rw[if_neg (by omega),hy,hok];simpa using h32
     have hf:cd xs=false:=dG hx hst;exact⟨by simp[hf],hS.nil⟩
    ·clear hA a;intro h32;intro a hA;simp only[decide_eq_decide,decide_eq_true_eq,decide_eq_false_iff_not,Bool.not_eq_true',Bool.not_eq_false',bne_iff_ne,ne_eq,beq_iff_eq,Bool.not_eq_true,Bool.not_eq_false]at h32;refine rX [23,24] hA ?_;clear hA a;intro a hA;refine ak (by kernel_rfl) ?_ _;refine rE 7 hA ?_;clear hA a;refine u1 2 (ah rfl rfl (by omega) (by omega)) ?_;intro a hA;replace hA:=hA.kp [0,3] rfl;have hok:fU x=true:=by simpa using h15
     have hst:eK (ahead none xs i) x=true:=by
      unfold eK ahead;rw[if_neg (by omega),hy,hok];simpa using h32
     exact⟨xs.length-(i+1),by omega,i+1,hA,hS.nil,by omega,fun j z hj hz=>(by rcases Nat.lt_or_ge j i with h | h;exact he j z h hz;obtain rfl:j=i:=(by omega);rw[hx]at hz;cases hz;exact hst),rfl⟩
   ·clear hA a;intro h18;refine uX [9,10,11,12,13,14,15,16,17,18,19,20,21,22,23,24] ?_;intro a hA;refine ak (by kernel_rfl) ?_ _;refine rE 7 hA ?_;clear hA a;refine u1 2 (ah rfl rfl (by omega) (by omega)) ?_;intro a hA;replace hA:=hA.kp [0,3] rfl;have hok:fU x=true:=by simpa using h15
    have hst:eK (ahead none xs i) x=true:=by
     obtain rfl:i=0:=by omega
     unfold eK ahead;rw[hok];rfl
    exact⟨xs.length-(i+1),by omega,i+1,hA,hS.nil,by omega,fun j z hj hz=>(by rcases Nat.lt_or_ge j i with h | h;exact he j z h hz;obtain rfl:j=i:=(by omega);rw[hx]at hz;cases hz;exact hst),rfl⟩
 ·intro h7;refine uO 14 ?_;refine aX ?_;obtain rfl:i=xs.length:=by omega
  have hf:cd xs=true:=df fun j x hx=>he j x (List.getElem?_eq_some_iff.1 hx).1 hx
  exact⟨by simp[hf],hS.nil⟩
end Go.Proofs.YtkjabaihpkbfhaaGreat.Wk
namespace Go.Proofs.YtkjabaihpkbfhaaGreat.K
open Go Go.RowKit
variable {ds:List Deferred}
theorem ur (zc:List Value)(h:0<zc.length):∀n:Nat,(List.range (n * zc.length)).map (fun i=>zc.toArray[i % zc.length]!)=(List.replicate n zc).flatten
 | 0=>by simp
 | n + 1 => by
   have hp:(List.range zc.length).map (fun i=>zc.toArray[i % zc.length]!)=zc:=by
    apply List.ext_getElem?;intro i;rw[List.getElem?_map];rcases Nat.lt_or_ge i zc.length with hi | hi
    ·
     rw[List.getElem?_range hi,List.getElem?_eq_getElem hi];simp[Nat.mod_eq_of_lt hi,hi]
    ·
     rw[List.getElem?_eq_none (by simpa using hi),List.getElem?_eq_none hi];rfl
   rw[Nat.add_mul,Nat.one_mul,Nat.add_comm (n * zc.length),List.range_add,List.map_append,hp,List.map_map];rw[show ((fun i=>zc.toArray[i % zc.length]!) ∘ fun x=>zc.length+x)=fun i=>zc.toArray[i % zc.length]! from by funext i;simp];rw[ur zc h n,List.replicate_succ,List.flatten_cons]
section
variable {P:Program} {w:World} {ρ:Operand→Value} {dd:Option Tmp} {ty:TypeId} {ps:String} {af:Array Edge} {g:Option (Nat×Bool)} {e t:TypeId} {x y:Operand}
theorem CF {z:Value}{zc:List Value}{by_ sz n:Nat}(hx:ρ x=.int .i64 n)(hy:ρ y=.int .i64 n)(ht:P.underlying t=some (.slice e))(hi:dM P e=some (some z,sz,by_))(hz:z.cells=zc.toArray)(hsz0:zc.length=sz)(hpos:0<sz)(hn:by_ * n≤140737488355328)(hn2:n≤140737488355328) :
 (execOp ρ ⟨dd,.makeSlice t x y,ty,ps,af,g⟩).run P w=.ok (.value (.slice (some ⟨w.heap.size,0,none⟩) n n)) (w.alloc (.cells (List.replicate n zc).flatten.toArray e)):=by
 obtain⟨i,hi',hq⟩:=Option.map_eq_some_iff.1 hi;simp only[Prod.mk.injEq]at hq;obtain⟨hz',hsz,hb⟩:=hq;have hw:IntKind.i64.wrap (n:Int)=n:=gG (by simp[IntKind.min,IntKind.signed,IntKind.bits];try omega) (by simp[IntKind.max,IntKind.signed,IntKind.bits];try omega)
 have h1:¬(281474976710656<(by_:Int) * (n:Int)):=by
  rw[show (by_:Int) * (n:Int)=((by_ * n:Nat):Int) from by simp];omega
 have h3:¬((n:Int)<0):=by omega
 have harr:((Array.range (n * sz)).map fun x=>z.cells[x % z.cells.size]!)=(List.replicate n zc).flatten.toArray:=by
  have:=ur zc (by omega) n;apply Array.ext';rw[←this,hz,←hsz0];simp
 have hN:∃N:Int,N=(n:Int):=⟨_,rfl⟩;obtain⟨N,hN⟩:=hN;have hNn:N.toNat=n:=by omega
 rw[←hN]at hx hy hw h1 h3;have h4:¬(n * by_ > 140737488355328):=by rw[Nat.mul_comm];omega
 simp[execOp,hx,hy,Instr.makeSlice,run_underlying ht,asInt,typeInfo,sizeOf,zeroValue,hi',hsz,hb,hz',hw,h1,h3,hNn,askRoom,roomBytes,newRow,newObj,Sem.run,go_sem]
 by_cases h0:n=0
 ·
  subst h0;rw[if_pos (Nat.zero_mul _)]
  congr 2
  rw[Nat.zero_mul];simp
 ·
  rw[if_neg (Nat.mul_ne_zero h0 (by omega))]
  congr 1
  show w.alloc (.cells (Array.map (fun x=>z.cells[x % z.cells.size]!) (Array.range (n * sz))) e)=_;rw[harr]
end
section
variable {P:Program} {ops:Array Oper} {a:Act} {n:Nat} {E:Env} {w W:World} {rest:List Oper} {d:Nat} {Q:Exit→Act→World→Prop} {L:List As} {e t:TypeId} {ty:TypeId} {ps:String} {af:Array Edge} {x y:Operand}
theorem K3 {z:Value}{zc:List Value}{by_ m sz:Nat}(hA:Ag a n E ds)(hn:Nat.blt d n=true)(hx:fF E x=some (.int .i64 m))(hy:fF E y=some (.int .i64 m))(ht:P.underlying t=some (.slice e))(hi:dM P e=some (some z,sz,by_))(hz:z.cells=zc.toArray)(hsz0:zc.length=sz)(hpos:0<sz)(h1:by_ * m≤140737488355328)(h2:m≤140737488355328)
 (s:Sat W w L) (k:∀b w',Sat W w' (row e sz (.slice (some ⟨b,0,none⟩) m m) m (List.replicate m zc).flatten::L)→∀a',Ag a' n ((d,.slice (some ⟨b,0,none⟩) m m)::E) ds→wpList P ops Q rest a' w'):wpList P ops Q (⟨some d,.makeSlice t x y,ty,ps,af,none⟩::rest) a w:=
 x8 hA rfl rfl hn (CF (hA.ev hx) (hA.ev hy) ht hi hz hsz0 hpos h1 h2) (k _ _ (Sat.HJ (s.alloc _) (by simp[hsz0]) (by omega)))
end
end Go.Proofs.YtkjabaihpkbfhaaGreat.K
namespace Go.Proofs.YtkjabaihpkbfhaaGreat.Wk
open Go Go.RowKit Go.Proofs.YtkjabaihpkbfhaaGreat Go.Proofs.YtkjabaihpkbfhaaGreat.K
theorem C1 (xs:List aV):(List.replicate xs.length [Value.int .i64 0,Value.int .i64 0]).flatten=(((xs.take 0).map aV.dot)++List.replicate (xs.length-0) (⟨0,0⟩:gw)).flatMap pA:=by
 rw[List.take_zero,List.map_nil,List.nil_append,Nat.sub_zero,List.flatMap_def,List.map_replicate];rfl
theorem um {α:Type}{enc:α→List Value}{k:Nat}(hk:∀x,(enc x).length=k):∀ {xs:List α} {i:Nat} (x:α),i<xs.length→(xs.flatMap enc).take (i * k)++enc x++(xs.flatMap enc).drop (i * k+k)=(xs.set i x).flatMap enc
 | [],i,x,h=>by simp at h
 | y :: xs, 0, x, h => by
   rw[List.flatMap_cons,List.set_cons_zero,List.flatMap_cons,Nat.zero_mul,List.take_zero,List.nil_append,Nat.zero_add,List.drop_append,List.drop_of_length_le (by rw[hk];exact Nat.le_refl _),List.nil_append,hk,Nat.sub_self,List.drop_zero]
 | y :: xs, i + 1, x, h => by
   have ih:=um hk (xs:=xs) (i:=i) x (by simpa using h);have e1:(i+1) * k=k+i * k:=by rw[Nat.add_mul];omega
   rw[List.flatMap_cons,List.set_cons_succ,List.flatMap_cons,←ih,e1,List.take_append,List.drop_append,List.take_of_length_le (by rw[hk];omega),List.drop_of_length_le (by rw[hk];omega),hk,List.nil_append];rw[show k+i * k-k=i * k from by omega,show k+i * k+k-k=i * k+k from by omega];simp only[List.append_assoc]
theorem EY {xs:List aV}{i:Nat}{x:aV}(hx:xs[i]?=some x):((((xs.take i).map aV.dot)++List.replicate (xs.length-i) (⟨0,0⟩:gw)).flatMap pA).take (i * 2)++[Value.int .i64 x.rep,Value.int .i64 x.num]++((((xs.take i).map aV.dot)++List.replicate (xs.length-i) (⟨0,0⟩:gw)).flatMap pA).drop (i * 2+[Value.int .i64 x.rep,Value.int .i64 x.num].length)=(((xs.take (i+1)).map aV.dot)++List.replicate (xs.length-(i+1)) (⟨0,0⟩:gw)).flatMap pA:=by
 have hi:=(List.getElem?_eq_some_iff.1 hx).1;have h:=um (enc:=pA) (k:=2) ui (xs:=((xs.take i).map aV.dot)++List.replicate (xs.length-i) (⟨0,0⟩:gw)) (i:=i) x.dot (by simp;omega)
 have e:(((xs.take i).map aV.dot)++List.replicate (xs.length-i) (⟨0,0⟩:gw)).set i x.dot=((xs.take (i+1)).map aV.dot)++List.replicate (xs.length-(i+1)) (⟨0,0⟩:gw):=by
  rw[List.set_append_right _ _ (by simp;omega),aD hx,List.map_append,List.append_assoc]
  congr 1
  obtain⟨k,hk⟩:∃k,xs.length-i=k+1:=⟨xs.length-i-1,by omega⟩;rw[hk,show xs.length-(i+1)=k from by omega,List.replicate_succ,List.length_map,List.length_take,show i-min i xs.length=0 from by omega]
  rfl
 rw[←e,←h];rfl
theorem C6 (xs:List aV):((xs.take xs.length).map aV.dot)++List.replicate (xs.length-xs.length) (⟨0,0⟩:gw)=xs.map aV.dot:=by simp
theorem E7 (b i:Nat):Value.pointer (some ((⟨b,0,none⟩:Addr).add (((i:Nat):Int).toNat * 2)))=Value.pointer (some ⟨b,i * 2,none⟩):=by
 rw[Int.toNat_natCast];simp only[Addr.add,Nat.zero_add]
 split
 ·
  rename_i h;rw[h]
 ·
  rfl
end Go.Proofs.YtkjabaihpkbfhaaGreat.Wk
namespace Go.Proofs.YtkjabaihpkbfhaaGreat.Wk
open Go Go.RowKit Go.Proofs.YtkjabaihpkbfhaaGreat Go.Proofs.YtkjabaihpkbfhaaGreat.K Go.Proofs.YtkjabaihpkbfhaaGreat.T
theorem yi (W:World)(A:Option Addr)(c:Nat)(xs:List aV)(hR:fI W A c xs)(hl:xs.length≤10000000000)(hE:cd xs=true):Calls Tryz.prog 252 #[.slice A (xs).length c] W fun e w'=>∃q:PL,e=.returned (.tuple #[.agg #[.slice q.va q.d.vec.length q.vc,.slice q.ca q.d.ab.length q.cc],.int .i64 0])∧q.d=l0 (xs.map aV.dot)∧Sat W w' [cI 3 q.va q.vc q.d.vec,bK 219 q.ca q.cc q.d.ab]:=by
 refine enter Tryz.func252 rfl rfl rfl (.cons (i:=0) rfl .nil) ?_;have hS:=Sat.start W;refine uC 2 ?_;refine uN dL hS ?_;clear hS;intro b2 w hS;refine uO 7 ?_;refine uF vT rfl (gE _ A c xs (hR.sat hS) (by omega)) ?_;rintro e w ⟨rfl,hT⟩;rw[if_pos hE];replace hS:Sat _ _ _:=hS.ai hT;clear hT;refine⟨_,rfl,?_⟩;refine u1 8 (dP (aK rfl rfl) (by omega)) ?_;refine u1 0 (ar rfl bA) ?_;intro a hA;refine K3 (zc:=[_,_]) hA rfl rfl rfl oA D3 rfl rfl (by decide) (by omega) (by omega) hS ?_;clear hA a hS;intro b13 w hS;refine uO 7 ?_;refine u1 4 (ar rfl bA) ?_;intro a hA
 refine wp_loop_ghost (fun (mm:Nat) a w=>∃(i:Nat),Ag a 29 [(2,.pointer (some ⟨b2,0,none⟩)),(3,.int .i64 0),(4,.slice (some ⟨b13,0,none⟩) xs.length xs.length),(14,.slice A (xs).length c),(15,.int .i64 ((xs.length:Nat):Int)),(16,.int .i64 ((i:Nat):Int))]∧Sat W w ([row 214 2 (.slice (some ⟨b13,0,none⟩) xs.length xs.length) xs.length (((xs.take i).map aV.dot++List.replicate (xs.length-i) (⟨0,0⟩:gw)).flatMap pA),a8 b2 (.cells #[.slice none 0 0,.slice none 0 0] 63)])∧(i≤xs.length)∧mm=xs.length-i) xs.length ?_ ?_
 ·replace hA:=hA.kp [2,3,4,14,15,16] rfl;rw[C1]at hS;exact⟨0,hA,hS,(by omega),by omega⟩
 intro m a w hI;clear hS hA;obtain⟨i,hA,hS,hi,rfl⟩:=hI;refine rC 2 hA ?_;clear hA a;refine aR 0 0 (aw rfl rfl) ?_ ?_
 ·intro h17;refine uO 11 ?_;obtain⟨A_p,rfl⟩:∃q,A=some q:=(hR.sat hS).av (by omega);obtain⟨x,hx⟩:∃zz_,xs[i]?=some zz_:=⟨_,List.getElem?_eq_getElem (by omega)⟩;refine u1 0 (aj rfl rfl bA cX (by omega) (by omega)) ?_;refine u1 0 (ad (cs:=mC x) rfl ml cX (fun j u e=>bJ (hR.sat hS) (cP hx j u e))) ?_;refine uN BY hS ?_;clear hS;intro b6 w hS;refine uO 1 ?_;refine uW (vs:=[_,_,_,_]) (cs':=[_,_,_,_]) rfl rfl cX hS ?_;clear hS;intro w hS;refine uO 5 ?_;refine u1 0 (aa rfl cm) ?_;refine u1 0 (ad (cs:=[_,_]) rfl gk dZ (by exact hS.ag (xs:=[_,_]) rfl)) ?_;refine u1 0 (aJ (aj rfl rfl oA dZ (by omega) (by omega)) (show _=Value.pointer (some ⟨b13,i * 2,none⟩) from E7 b13 i)) ?_;intro a hA
  refine GN (i * 2) (vs:=[_,_]) hA rfl (by simp[Addr.add]) rfl dZ (by simp[Value.oneCell']) (hS.p 1) (by rw[oq ui];simp;omega) ?_;clear hS;intro w hS;refine rO 4 hA ?_;clear hA a;refine u1 2 (ah rfl rfl (by omega) (by omega)) ?_;intro a hA;replace hA:=hA.kp [2,3,4,14,15,16] rfl;rw[EY hx]at hS;exact⟨xs.length-(i+1),by omega,i+1,hA,oO ((hS.p 2).p 1),by omega,rfl⟩
 ·intro h17;obtain rfl:i=xs.length:=by omega
  intro a hA;rw[C6]at hS;replace hS:=iH hS (m:=(xs.map aV.dot).length) (by simp) rfl;rw[show Value.slice (some ⟨b13,0,none⟩) xs.length xs.length=.slice (some ⟨b13,0,none⟩) (xs.map aV.dot).length xs.length from by rw[List.length_map]]at hA;refine rO 9 hA ?_;clear hA a;intro a hA;replace hA:=hA.kp [2,3,4] rfl;refine rC 3 hA ?_;clear hA a;refine uF JR rfl (Ee _ _ _ (xs.map aV.dot) hS.rd (by simp;omega)) ?_;rintro e w ⟨q,rfl,hq,hT⟩;replace hS:Sat _ _ (_::_::_):=hS.ai hT;clear hT;refine⟨_,rfl,?_⟩;refine uW (vs:=[_,_]) (cs':=[_,_]) rfl rfl aC (hS.p 3) ?_;clear hS;intro w hS;refine uO 4 ?_;intro a hA;refine ez hA rfl (dg (cs:=[_,_]) hA rfl a6 aC (by exact hS.ag (xs:=[_,_]) rfl)) (dn hA rfl) ?_;exact⟨q,rfl,hq,oO ((hS.p 2).p 2)⟩
theorem zK (W:World)(A:Option Addr)(c:Nat)(xs:List aV)(hR:fI W A c xs)(hl:xs.length≤10000000000):Calls Tryz.prog 237 #[.slice A (xs).length c,.string { data:=#[] },.int .i64 (-1)] W fun e w'=>∃q:PL,e=.returned (.agg #[.slice q.va q.d.vec.length q.vc,.slice q.ca q.d.ab.length q.cc])∧q.d=l0 (xs.map aV.dot)∧Sat W w' [cI 3 q.va q.vc q.d.vec,bK 219 q.ca q.cc q.d.ab]:=by
 refine enter Tryz.func237 rfl rfl rfl (.cons (i:=0) rfl (.cons (i:=1) rfl (.cons (i:=2) rfl .nil))) ?_;have hS:=Sat.start W;refine uC 2 ?_;refine uN dL hS ?_;clear hS;intro b6 w hS;refine uO 14 ?_;intro a hA;refine wp_loop_ghost (fun (mm:Nat) a w=>∃(i:Nat) (Ao:Option Addr) (co:Nat),Ag a 50 [(0,.slice A (xs).length c),(1,.string { data:=#[] }),(2,.int .i64 ((-1))),(6,.pointer (some ⟨b6,0,none⟩)),(7,.slice Ao (((xs.take i).map aV.dot)).length co),(8,.int .i64 ((i:Nat):Int))]∧Sat W w ([Ip 214 Ao co ((xs.take i).map aV.dot),a8 b6 (.cells #[.slice none 0 0,.slice none 0 0] 63)])∧(i≤xs.length)∧mm=xs.length-i) xs.length ?_ ?_
 ·replace hA:=hA.kp [0,1,2,6,7,8] rfl;exact⟨0,none,0,hA,(hS.aY 214 2),(by omega),by omega⟩
 intro m a w hI;clear hS hA;obtain⟨i,Ao,co,hA,hS,hi,rfl⟩:=hI;refine rC 5 hA ?_;clear hA a;refine u1 0 (ar rfl bA) ?_;refine aR 0 0 (aw rfl rfl) ?_ ?_
 ·intro h12;have hcl:((xs.take i).map aV.dot).length≤10000000000:=by rw[List.length_map,List.length_take];omega
  refine uO 10 ?_;refine u1 11 (iK rfl rfl) ?_;refine u1 18 (eu (aw rfl rfl) (by omega)) ?_;obtain⟨A_p,rfl⟩:∃q,A=some q:=(hR.sat hS).av (by omega);obtain⟨x,hx⟩:∃zz_,xs[i]?=some zz_:=⟨_,List.getElem?_eq_getElem (by omega)⟩;refine u1 0 (aj rfl rfl bA cX (by omega) (by omega)) ?_;refine u1 0 (aA rfl cm) ?_;refine u1 0 (ad (cs:=[.int .i64 x.rep,.int .i64 x.num]) rfl gk dZ (fun j u e=>kV (hR.sat hS) (cP hx _ u (jr x j u e)))) ?_;intro a hA;refine ji (vss:=[[_,_]]) hA rfl rfl oA D3 rfl rfl rfl (by simp) rfl hS ?_;clear hA a hS;intro A46 w hS;intro a hA;refine dy hA rfl rfl rfl oA D3 rfl (hS.p 1) (hS.rd.src oA (by simp[Value.oneCell'])) (by omega) (by omega) ?_;clear hA a hS;intro A47 c47 w hc47 hS;refine uO 6 ?_;refine u1 2 (ah rfl rfl (by omega) (by omega)) ?_;intro a hA
  replace hA:=hA.kp [0,1,2,6,7,8] rfl;have ec:(xs.take i).map aV.dot++[x.dot]=(xs.take (i+1)).map aV.dot:=by rw[aD hx,List.map_append];rfl
  have el:((xs.take i).map aV.dot).length+1=((xs.take (i+1)).map aV.dot).length:=by rw[←ec,List.length_append];rfl
  have hS2:=iH hS el (cs':=((xs.take (i+1)).map aV.dot).flatMap pA) (by rw[←ec,List.flatMap_append];rfl);rw[el]at hA;exact⟨xs.length-(i+1),by omega,i+1,_,_,hA,oO ((hS2.p 2).p 1),by omega,rfl⟩
 ·intro h12;obtain rfl:i=xs.length:=by omega
  intro a hA;rw[List.take_length]at hS hA;refine rO 11 hA ?_;clear hA a;refine uF JC rfl (Di _ _ _ (xs.map aV.dot) hS.rd (by simp;omega)) ?_;rintro e w ⟨q,rfl,hq,hT⟩;replace hS:Sat _ _ (_::_::_):=hS.ai hT;clear hT;refine⟨_,rfl,?_⟩;refine uW (vs:=[_,_]) (cs':=[_,_]) rfl rfl aC (hS.p 3) ?_;clear hS;intro w hS;refine uO 3 ?_;intro a hA;refine gX hA rfl (dg (cs:=[_,_]) hA rfl a6 aC (by exact hS.ag (xs:=[_,_]) rfl)) ?_;exact⟨q,rfl,hq,oO ((hS.p 2).p 2)⟩
end Go.Proofs.YtkjabaihpkbfhaaGreat.Wk
namespace Go.Proofs.YtkjabaihpkbfhaaGreat.Wk
open Go Go.RowKit Go.Proofs.YtkjabaihpkbfhaaGreat Go.Proofs.YtkjabaihpkbfhaaGreat.K
def fx (r:bW):Bool:=(decide (r.cy={ data:=#[] }) || mv r.cy) && (bL r.bF && !eE r.bF)
def nH (r:bW):Int:=if (decide (r.cy={ data:=#[] }) || mv r.cy)=true then (if (bL r.bF && !eE r.bF)=true then 0 else 1) else 5
theorem jF (r:bW):decide (nH r=0)=fx r:=by
 unfold nH fx;cases (decide (r.cy={ data:=#[] }) || mv r.cy)
 ·
  rfl
 ·
  cases (bL r.bF && !eE r.bF)<;>rfl
def gN (a b:bW):Int:=if x7 a.cy b.cy=0 then pG a.bF b.bF else x7 a.cy b.cy
def fm (p:Option bW)(r:bW):Bool:=fx r && match p with | none=>true | some q=>decide (gN q r<0)
def cz (l:List bW):Bool:=kB fm none l
def gZ (r:bW)(e:aV):Bool:=(decide (r.cy={ data:=#[] }) || decide (r.cy=e.cy)) && hasB r.bF e.rep e.num
def bN (rs:List bW)(e:aV):Bool:=rs.any fun r=>gZ r e
theorem bR {rs:List RL}{i:Nat}{x:RL}(h:rs[i]?=some x):(rs.map RL.d)[i]?=some x.d:=by rw[List.getElem?_map,h];rfl
theorem oh (x:RL)(j:Nat)(u:Value)(e:([Value.slice x.p.va x.p.d.vec.length x.p.vc,Value.slice x.p.ca x.p.d.ab.length x.p.cc]:List Value)[j]?=some u):(iX x)[1+j]?=some u:=by
 have hj:=(List.getElem?_eq_some_iff.1 e).1;rw[←e]
 match j,hj with
 | 0,_=>rfl
 | 1,_=>rfl
def dx (n:Nat)(rs:List RL):Prop:=∀r∈rs,r.p.d.vec.length≤1000000000000∧r.p.d.ab.length≤n
theorem dx.get {n:Nat}{rs:List RL}(h:dx n rs){i:Nat}{x:RL}(hx:rs[i]?=some x):x.p.d.vec.length≤1000000000000∧x.p.d.ab.length≤n:=h x (List.mem_of_getElem? hx)
theorem Du {a b:ByteArray}(h:re a.data.toList b.data.toList=true):x7 a b=-1:=by unfold x7;rw[if_pos h]
theorem Ek {a b:ByteArray}(h:re a.data.toList b.data.toList=false)(h':re b.data.toList a.data.toList=true):x7 a b=1:=by unfold x7;rw[if_neg (by simp[h]),if_pos h']
theorem Hf {a b:ByteArray}(h:re a.data.toList b.data.toList=false)(h':re b.data.toList a.data.toList=false):x7 a b=0:=by unfold x7;rw[if_neg (by simp[h]),if_neg (by simp[h'])]
theorem DY {a b:ByteArray}(h:a.data.toList=b.data.toList):a=b:=by
 obtain⟨⟨x⟩⟩:=a;obtain⟨⟨y⟩⟩:=b;simp only at h;subst h;rfl
theorem qI {a b:ByteArray}:x7 a b=0↔a=b:=by
 unfold x7;constructor
 ·
  intro h
  by_cases h1:re a.data.toList b.data.toList=true
  ·
   rw[if_pos h1]at h;cases h
  ·
   by_cases h2:re b.data.toList a.data.toList=true
   ·
    rw[if_neg h1,if_pos h2]at h;cases h
   ·
    have:=sQ a.data.toList b.data.toList;simp only[Bool.not_eq_true]at h1 h2;rw[h1,h2]at this;simp at this;exact DY (by simpa using this)
 ·
  rintro rfl;rw[p3];rfl
theorem Ab {p q:aL}(h:∀r n,xZ p r n↔xZ q r n)(r n:Int):hasB p r n=hasB q r n:=by
 rw[Bool.eq_iff_iff,iQ,iQ,h]
theorem C9 {ps:List aL}{r n:Int}:xZ (iB ps) r n↔∃p∈ps,xZ p r n:=by
 unfold xZ;constructor
 ·
  rintro ⟨h1,h2,h3⟩;obtain⟨p,hp,h4⟩:=(sq ps (by omega) n).1 h3;exact⟨p,hp,h1,h2,h4⟩
 ·
  rintro ⟨p,hp,h1,h2,h3⟩;exact⟨h1,h2,(sq ps (by omega) n).2 ⟨p,hp,h3⟩⟩
theorem C0 (ps:List aL)(r n:Int):hasB (iB ps) r n=ps.any fun p=>hasB p r n:=by
 rw[Bool.eq_iff_iff,iQ,C9,List.any_eq_true];constructor
 ·
  rintro ⟨p,hp,h⟩;exact⟨p,hp,iQ.2 h⟩
 ·
  rintro ⟨p,hp,h⟩;exact⟨p,hp,iQ.1 h⟩
theorem tF (a b:aL)(r n:Int):hasB (j4 a b) r n=(hasB a r n && !hasB b r n):=by
 rw[Bool.eq_iff_iff,iQ,Bool.and_eq_true,iQ,Bool.not_eq_true',←Bool.not_eq_true,iQ];unfold xZ;constructor
 ·
  rintro ⟨h1,h2,h3⟩;rw[km a b (by omega)]at h3;obtain⟨h4,h5⟩:=(mz (bx a _) (bx b _) n).1 h3;exact⟨⟨h1,h2,h4⟩,fun h=>h5 h.2.2⟩
 ·
  rintro ⟨⟨h1,h2,h3⟩,h4⟩;refine⟨h1,h2,?_⟩;rw[km a b (by omega)];exact (mz (bx a _) (bx b _) n).2 ⟨h3,fun h=>h4 ⟨h1,h2,h⟩⟩
theorem Dj (p:aL)(r n:Int):hasB (hJ p) r n=hasB p r n:=by
 refine Ab (fun r n=>?_) r n;unfold xZ;constructor
 ·
  rintro ⟨h1,h2,h3⟩;rw[show hJ p=fW (aN p) from rfl,jL (fun r=>bx p r) (by omega)]at h3;exact⟨h1,h2,h3⟩
 ·
  rintro ⟨h1,h2,h3⟩;refine⟨h1,h2,?_⟩;rw[show hJ p=fW (aN p) from rfl,jL (fun r=>bx p r) (by omega)];exact h3
theorem pU {p:aL}(h:eE p=true)(r n:Int):hasB p r n=false:=by
 rw[Bool.eq_false_iff,ne_eq,iQ];rintro ⟨h1,h2,h3⟩;rw[(rV p).1 h r.toNat (by omega)]at h3;simp[bG]at h3
theorem B8 {a b:ByteArray}(h:re b.data.toList a.data.toList=true):x7 a b=1:=by
 refine Ek ?_ h
 by_cases h2:re a.data.toList b.data.toList=true
 ·
  have:=wX _ _ _ h2 h;rw[p3]at this;cases this
 ·
  simpa using h2
theorem Cb {a b:ByteArray}(h:re b.data.toList a.data.toList=false)(h':¬a=b):x7 a b=-1:=by
 refine Du ?_;have h1:=sQ b.data.toList a.data.toList;rw[←h1,h];have h2:¬b.data.toList=a.data.toList:=fun e=>h' (DY e.symm)
 simp at h2 ⊢;exact h2
end Go.Proofs.YtkjabaihpkbfhaaGreat.Wk
namespace Go.Proofs.YtkjabaihpkbfhaaGreat.Wk
open Go Go.RowKit Go.Proofs.YtkjabaihpkbfhaaGreat Go.Proofs.YtkjabaihpkbfhaaGreat.K Go.Proofs Go.Shelf Go.Proofs.YtkjabaihpkbfhaaGreat.T
theorem zR (W:World)(a b:ByteArray):Calls Tryz.prog 397 #[.string a,.string b] W fun e w'=>e=.returned (.int .i64 (Lib.compareBytes a.data.toList b.data.toList))∧w'=W:=by
 go_enter Tryz.func397,Tryz.ntmps397
 go_wp2
 rw[run_callFunc_extern Tryz.func413 (by kernel_rfl) (by kernel_rfl) (by kernel_rfl) (e:=Extern.BytealgCompare.compare) (by kernel_rfl),Lib.run_compareString];simp only[Result.andThen];rw[Oper.upon_value]
 go_wp2
 go_ret
 exact⟨rfl,rfl⟩
theorem sL (W:World)(a b:ByteArray):Calls Tryz.prog 397 #[.string a,.string b] W fun e w'=>e=.returned (.int .i64 (x7 a b))∧Sat W w' []:=
 (zR W a b).mono fun e w' ⟨h,hw⟩=>⟨by rw[h,Bi];rfl,by rw[hw];exact Sat.start W⟩
theorem sa (W:World)(s t:ByteArray)  : Calls Tryz.prog 386 #[.string s,.string t] W fun e w'=>e=.returned (.int .i64 (x7 s t))∧Sat W w' []:=by
 refine enter Tryz.func386 rfl rfl rfl (.cons (i:=0) rfl (.cons (i:=1) rfl .nil)) ?_;have hS:=Sat.start W;refine uC 9 ?_;refine uF Im rfl (sL _ s t) ?_;rintro e w ⟨rfl,hT⟩;replace hS:Sat _ _ _:=hS.ai hT;clear hT;refine⟨_,rfl,?_⟩;refine uO 4 ?_;refine aX ?_;exact⟨rfl,hS⟩
end Go.Proofs.YtkjabaihpkbfhaaGreat.Wk
namespace Go.Proofs.YtkjabaihpkbfhaaGreat.Wk
open Go Go.RowKit Go.Proofs.YtkjabaihpkbfhaaGreat Go.Proofs.YtkjabaihpkbfhaaGreat.K Go.Proofs.YtkjabaihpkbfhaaGreat.T
theorem tT (W:World)(x y:RL)(hpa:x.p.ok W)(hpb:y.p.ok W)(hla:x.p.d.ab.length≤10000000000)(hlb:y.p.d.ab.length≤10000000000):Calls Tryz.prog 369 #[.agg #[.string x.cy,.slice x.p.va x.p.d.vec.length x.p.vc,.slice x.p.ca x.p.d.ab.length x.p.cc],.agg #[.string y.cy,.slice y.p.va y.p.d.vec.length y.p.vc,.slice y.p.ca y.p.d.ab.length y.p.cc]] W fun e w'=>e=.returned (.int .i64 (gN x.d y.d))∧Sat W w' []:=by
 refine enter Tryz.func369 rfl rfl rfl (.cons (i:=0) rfl (.cons (i:=1) rfl .nil)) ?_;have hS:=Sat.start W;refine uC 2 ?_;refine uB rfl hS ?_;clear hS;intro b2 w hS;refine uB rfl hS ?_;clear hS;intro b3 w hS;refine uO 6 ?_;refine u1 0 (aa rfl bY) ?_;refine u1 0 (ld rfl lq) ?_;refine u1 0 (aa rfl bY) ?_;refine u1 0 (ld rfl lq) ?_;refine uF Kx rfl (sa _ x.cy y.cy) ?_;rintro e w ⟨rfl,hT⟩;replace hS:Sat _ _ _:=hS.ai hT;clear hT;refine⟨_,rfl,?_⟩;refine uO 6 ?_;refine aR 0 0 (aK rfl rfl) ?_ ?_
 ·intro h12;refine uO 11 ?_;refine aX ?_;refine⟨?_,hS.nil⟩;unfold gN RL.d;dsimp only;rw[if_neg (by omega)]
 ·intro h12;refine uO 7 ?_;refine u1 0 (aa rfl bM) ?_;refine u1 0 (ad (cs:=[_,_]) rfl a6 aC (by exact (hS.p 1).ag (xs:=[_,_]) rfl)) ?_;refine u1 0 (aa rfl bM) ?_;refine u1 0 (ad (cs:=[_,_]) rfl a6 aC (by exact hS.ag (xs:=[_,_]) rfl)) ?_;refine uF Iz rfl (uo _ x.p y.p (hpa.sat hS) (hpb.sat hS) hla hlb) ?_;rintro e w ⟨rfl,hT⟩;replace hS:Sat _ _ _:=hS.ai hT;clear hT;refine⟨_,rfl,?_⟩;refine uO 4 ?_;refine aX ?_;refine⟨?_,hS.nil⟩;unfold gN RL.d;dsimp only;rw[if_pos (by omega)]
theorem uh (W:World)(x y:RL)(hpa:x.p.ok W)(hpb:y.p.ok W)(hla:x.p.d.ab.length≤10000000000)(hlb:y.p.d.ab.length≤10000000000):Calls Tryz.prog 229 #[.agg #[.string x.cy,.slice x.p.va x.p.d.vec.length x.p.vc,.slice x.p.ca x.p.d.ab.length x.p.cc],.agg #[.string y.cy,.slice y.p.va y.p.d.vec.length y.p.vc,.slice y.p.ca y.p.d.ab.length y.p.cc]] W fun e w'=>e=.returned (.int .i64 (gN x.d y.d))∧Sat W w' []:=by
 refine enter Tryz.func229 rfl rfl rfl (.cons (i:=0) rfl (.cons (i:=1) rfl .nil)) ?_;have hS:=Sat.start W;refine uC 2 ?_;refine uB rfl hS ?_;clear hS;intro b2 w hS;refine uB rfl hS ?_;clear hS;intro b3 w hS;refine uO 6 ?_;refine u1 0 (aa rfl bY) ?_;refine u1 0 (ld rfl lq) ?_;refine u1 0 (aa rfl bY) ?_;refine u1 0 (ld rfl lq) ?_;refine nb 0 0 (IT rfl rfl) ?_ ?_
 ·intro h9;refine uO 10 ?_;refine aX ?_;refine⟨?_,hS.nil⟩;unfold gN RL.d;dsimp only;rw[Du h9,if_neg (by decide)]
 ·intro h9;refine uO 8 ?_;refine u1 0 (aa rfl bY) ?_;refine u1 0 (ld rfl lq) ?_;refine u1 0 (aa rfl bY) ?_;refine u1 0 (ld rfl lq) ?_;refine nb 0 0 (Dx rfl rfl) ?_ ?_
  ·intro h14;refine uO 10 ?_;refine aX ?_;refine⟨?_,hS.nil⟩;unfold gN RL.d;dsimp only;rw[Ek h9 h14,if_neg (by decide)]
  ·intro h14;refine uO 7 ?_;refine u1 0 (aa rfl bM) ?_;refine u1 0 (ad (cs:=[_,_]) rfl a6 aC (by exact (hS.p 1).ag (xs:=[_,_]) rfl)) ?_;refine u1 0 (aa rfl bM) ?_;refine u1 0 (ad (cs:=[_,_]) rfl a6 aC (by exact hS.ag (xs:=[_,_]) rfl)) ?_;refine uF Ew rfl (k9 _ x.p y.p (hpa.sat hS) (hpb.sat hS) hla hlb) ?_;rintro e w ⟨rfl,hT⟩;replace hS:Sat _ _ _:=hS.ai hT;clear hT;refine⟨_,rfl,?_⟩;refine uO 3 ?_;intro a hA;replace hA:=hA.kp [4] rfl;refine rC 1 hA ?_;clear hA a;refine aX ?_;refine⟨?_,hS.nil⟩;unfold gN RL.d;dsimp only;rw[Hf h9 h14,if_pos rfl]
theorem qh (W:World)(r:RL)(hp:r.p.ok W)(hrv:r.p.d.vec.length≤1000000000000)(hrc:r.p.d.ab.length≤10000000000):Calls Tryz.prog 368 #[.agg #[.string r.cy,.slice r.p.va r.p.d.vec.length r.p.vc,.slice r.p.ca r.p.d.ab.length r.p.cc]] W fun e w'=>e=.returned (.int .i64 (nH r.d))∧Sat W w' []:=by
 refine enter Tryz.func368 rfl rfl rfl (.cons (i:=0) rfl .nil) ?_;have hS:=Sat.start W;refine uC 2 ?_;refine uB rfl hS ?_;clear hS;intro b1 w hS;refine uO 6 ?_;refine u1 0 (aa rfl bY) ?_;refine u1 0 (ld rfl lq) ?_;refine aR 0 0 (Au rfl rfl) ?_ ?_
 ·intro h5;refine uO 1 ?_;refine u1 0 (aa rfl bY) ?_;refine u1 0 (ld rfl lq) ?_;intro a hA;refine dQ hA (ao hA rfl rfl rfl) rfl Gz rfl (o6 _ r.cy) ?_;clear hA a;rintro e w ⟨rfl,hT⟩;replace hS:Sat _ _ _:=hS.ai hT;clear hT;generalize h9:(mv r.cy)=bb;cases bb
  ·refine⟨_,rfl,?_⟩;refine u1 11 (aM rfl) ?_;refine aX ?_;refine⟨?_,hS.nil⟩;unfold nH RL.d;dsimp only;rw[if_neg (by rw[h9];simpa using h5)]
  ·refine⟨_,rfl,?_⟩;refine u1 9 (aM rfl) ?_;refine u1 0 (aa rfl bM) ?_;refine u1 0 (ad (cs:=[_,_]) rfl a6 aC (by exact hS.ag (xs:=[_,_]) rfl)) ?_;refine uF uU rfl (fE _ r.p (hp.sat hS) hrc hrv) ?_;rintro e w ⟨rfl,hT⟩;replace hS:Sat _ _ _:=hS.ai hT;clear hT;generalize h14:(bL r.p.d)=bb;cases bb
   ·refine⟨_,rfl,?_⟩;refine u1 13 (aM rfl) ?_;intro a hA;replace hA:=hA.kp [2] rfl;refine rC 2 hA ?_;clear hA a;refine aX ?_;refine⟨?_,hS.nil⟩;unfold nH RL.d;dsimp only;rw[if_pos (by simp[h9]),if_neg (by rw[h14];simp)]
   ·refine⟨_,rfl,?_⟩;refine u1 1 (aM rfl) ?_;refine u1 0 (aa rfl bM) ?_;refine u1 0 (ad (cs:=[_,_]) rfl a6 aC (by exact hS.ag (xs:=[_,_]) rfl)) ?_;intro a hA;refine dQ hA (ao hA rfl rfl rfl) rfl wD rfl (gB _ r.p (hp.sat hS) hrc) ?_;clear hA a;rintro e w ⟨rfl,hT⟩;replace hS:Sat _ _ _:=hS.ai hT;clear hT;generalize h19:(eE r.p.d)=bb;cases bb
    ·refine⟨_,rfl,?_⟩;refine uO 12 ?_;refine aX ?_;refine⟨?_,hS.nil⟩;unfold nH RL.d;dsimp only;rw[if_pos (by simp[h9]),if_pos (by rw[h14,h19];rfl)]
    ·refine⟨_,rfl,?_⟩;refine uO 11 ?_;refine aX ?_;refine⟨?_,hS.nil⟩;unfold nH RL.d;dsimp only;rw[if_pos (by simp[h9]),if_neg (by rw[h19];simp)]
 ·intro h5;refine uO 14 ?_;refine u1 0 (aa rfl bM) ?_;refine u1 0 (ad (cs:=[_,_]) rfl a6 aC (by exact hS.ag (xs:=[_,_]) rfl)) ?_;refine uF uU rfl (fE _ r.p (hp.sat hS) hrc hrv) ?_;rintro e w ⟨rfl,hT⟩;replace hS:Sat _ _ _:=hS.ai hT;clear hT;generalize h14:(bL r.p.d)=bb;cases bb
  ·refine⟨_,rfl,?_⟩;refine u1 13 (aM rfl) ?_;intro a hA;replace hA:=hA.kp [2] rfl;refine rC 2 hA ?_;clear hA a;refine aX ?_;refine⟨?_,hS.nil⟩;unfold nH RL.d;dsimp only;rw[if_pos (by simp;exact .inl (Classical.not_not.1 h5)),if_neg (by rw[h14];simp)]
  ·refine⟨_,rfl,?_⟩;refine u1 1 (aM rfl) ?_;refine u1 0 (aa rfl bM) ?_;refine u1 0 (ad (cs:=[_,_]) rfl a6 aC (by exact hS.ag (xs:=[_,_]) rfl)) ?_;intro a hA;refine dQ hA (ao hA rfl rfl rfl) rfl wD rfl (gB _ r.p (hp.sat hS) hrc) ?_;clear hA a;rintro e w ⟨rfl,hT⟩;replace hS:Sat _ _ _:=hS.ai hT;clear hT;generalize h19:(eE r.p.d)=bb;cases bb
   ·refine⟨_,rfl,?_⟩;refine uO 12 ?_;refine aX ?_;refine⟨?_,hS.nil⟩;unfold nH RL.d;dsimp only;rw[if_pos (by simp;exact .inl (Classical.not_not.1 h5)),if_pos (by rw[h14,h19];rfl)]
   ·refine⟨_,rfl,?_⟩;refine uO 9 ?_;intro a hA;replace hA:=hA.kp [2] rfl;refine rC 2 hA ?_;clear hA a;refine aX ?_;refine⟨?_,hS.nil⟩;unfold nH RL.d;dsimp only;rw[if_pos (by simp;exact .inl (Classical.not_not.1 h5)),if_neg (by rw[h19];simp)]
theorem pV (W:World)(r:RL)(hp:r.p.ok W)(hrv:r.p.d.vec.length≤1000000000000)(hrc:r.p.d.ab.length≤10000000000):Calls Tryz.prog 228 #[.agg #[.string r.cy,.slice r.p.va r.p.d.vec.length r.p.vc,.slice r.p.ca r.p.d.ab.length r.p.cc]] W fun e w'=>e=.returned (.int .i64 (nH r.d))∧Sat W w' []:=by
 refine enter Tryz.func228 rfl rfl rfl (.cons (i:=0) rfl .nil) ?_;have hS:=Sat.start W;refine uC 2 ?_;refine uB rfl hS ?_;clear hS;intro b1 w hS;refine uO 6 ?_;refine u1 0 (aa rfl bY) ?_;refine u1 0 (ld rfl lq) ?_;refine aR 0 0 (Au rfl rfl) ?_ ?_
 ·intro h5;refine uO 1 ?_;refine u1 0 (aa rfl bY) ?_;refine u1 0 (ld rfl lq) ?_;intro a hA;refine dQ hA (ao hA rfl rfl rfl) rfl yZ rfl (gi _ r.cy) ?_;clear hA a;rintro e w ⟨rfl,hT⟩;replace hS:Sat _ _ _:=hS.ai hT;clear hT;generalize h9:(mv r.cy)=bb;cases bb
  ·refine⟨_,rfl,?_⟩;refine u1 11 (aM rfl) ?_;refine aX ?_;refine⟨?_,hS.nil⟩;unfold nH RL.d;dsimp only;rw[if_neg (by rw[h9];simpa using h5)]
  ·refine⟨_,rfl,?_⟩;refine u1 9 (aM rfl) ?_;refine u1 0 (aa rfl bM) ?_;refine u1 0 (ad (cs:=[_,_]) rfl a6 aC (by exact hS.ag (xs:=[_,_]) rfl)) ?_;refine uF u9 rfl (fe _ r.p (hp.sat hS) hrc hrv) ?_;rintro e w ⟨rfl,hT⟩;replace hS:Sat _ _ _:=hS.ai hT;clear hT;generalize h14:(bL r.p.d)=bb;cases bb
   ·refine⟨_,rfl,?_⟩;refine u1 13 (aM rfl) ?_;intro a hA;replace hA:=hA.kp [2] rfl;refine rC 2 hA ?_;clear hA a;refine aX ?_;refine⟨?_,hS.nil⟩;unfold nH RL.d;dsimp only;rw[if_pos (by simp[h9]),if_neg (by rw[h14];simp)]
   ·refine⟨_,rfl,?_⟩;refine u1 1 (aM rfl) ?_;refine u1 0 (aa rfl bM) ?_;refine u1 0 (ad (cs:=[_,_]) rfl a6 aC (by exact hS.ag (xs:=[_,_]) rfl)) ?_;intro a hA;refine dQ hA (ao hA rfl rfl rfl) rfl yJ rfl (iR _ r.p (hp.sat hS) hrc) ?_;clear hA a;rintro e w ⟨rfl,hT⟩;replace hS:Sat _ _ _:=hS.ai hT;clear hT;generalize h19:(eE r.p.d)=bb;cases bb
    ·refine⟨_,rfl,?_⟩;refine uO 12 ?_;refine aX ?_;refine⟨?_,hS.nil⟩;unfold nH RL.d;dsimp only;rw[if_pos (by simp[h9]),if_pos (by rw[h14,h19];rfl)]
    ·refine⟨_,rfl,?_⟩;refine uO 11 ?_;refine aX ?_;refine⟨?_,hS.nil⟩;unfold nH RL.d;dsimp only;rw[if_pos (by simp[h9]),if_neg (by rw[h19];simp)]
 ·intro h5;refine uO 14 ?_;refine u1 0 (aa rfl bM) ?_;refine u1 0 (ad (cs:=[_,_]) rfl a6 aC (by exact hS.ag (xs:=[_,_]) rfl)) ?_;refine uF u9 rfl (fe _ r.p (hp.sat hS) hrc hrv) ?_;rintro e w ⟨rfl,hT⟩;replace hS:Sat _ _ _:=hS.ai hT;clear hT;generalize h14:(bL r.p.d)=bb;cases bb
  ·refine⟨_,rfl,?_⟩;refine u1 13 (aM rfl) ?_;intro a hA;replace hA:=hA.kp [2] rfl;refine rC 2 hA ?_;clear hA a;refine aX ?_;refine⟨?_,hS.nil⟩;unfold nH RL.d;dsimp only;rw[if_pos (by simp;exact .inl (Classical.not_not.1 h5)),if_neg (by rw[h14];simp)]
  ·refine⟨_,rfl,?_⟩;refine u1 1 (aM rfl) ?_;refine u1 0 (aa rfl bM) ?_;refine u1 0 (ad (cs:=[_,_]) rfl a6 aC (by exact hS.ag (xs:=[_,_]) rfl)) ?_;intro a hA;refine dQ hA (ao hA rfl rfl rfl) rfl yJ rfl (iR _ r.p (hp.sat hS) hrc) ?_;clear hA a;rintro e w ⟨rfl,hT⟩;replace hS:Sat _ _ _:=hS.ai hT;clear hT;generalize h19:(eE r.p.d)=bb;cases bb
   ·refine⟨_,rfl,?_⟩;refine uO 12 ?_;refine aX ?_;refine⟨?_,hS.nil⟩;unfold nH RL.d;dsimp only;rw[if_pos (by simp;exact .inl (Classical.not_not.1 h5)),if_pos (by rw[h14,h19];rfl)]
   ·refine⟨_,rfl,?_⟩;refine uO 9 ?_;intro a hA;replace hA:=hA.kp [2] rfl;refine rC 2 hA ?_;clear hA a;refine aX ?_;refine⟨?_,hS.nil⟩;unfold nH RL.d;dsimp only;rw[if_pos (by simp;exact .inl (Classical.not_not.1 h5)),if_neg (by rw[h19];simp)]
theorem fC (W:World)(A:Option Addr)(c:Nat)(rs:List RL)(hR:fO W A c rs)(hE:∀r∈rs,r.p.ok W)(hB:dx 10000000000 rs)(hl:rs.length≤1000000000000):Calls Tryz.prog 353 #[.slice A (rs).length c] W fun e w'=>e=.returned (.int .i64 (if cz (rs.map RL.d)=true then 0 else 1))∧Sat W w' []:=by
 refine enter Tryz.func353 rfl rfl rfl (.cons (i:=0) rfl .nil) ?_;have hS:=Sat.start W;refine uC 9 ?_;refine u1 4 (ar rfl db) ?_;intro a hA;refine wp_loop_ghost (fun (mm:Nat) a w=>∃(i:Nat),Ag a 30 [(0,.slice A (rs).length c),(5,.slice A (rs).length c),(6,.int .i64 ((rs.length:Nat):Int)),(7,.int .i64 ((i:Nat):Int))]∧Sat W w ([])∧(i≤rs.length)∧(∀j x,j<i→(rs.map RL.d)[j]?=some x→fm (ahead none (rs.map RL.d) j) x=true)∧mm=rs.length-i) rs.length ?_ ?_
 ·replace hA:=hA.kp [0,5,6,7] rfl;exact⟨0,hA,hS,(by omega),(by intro j x hj;omega),by omega⟩
 intro m a w hI;clear hS hA;obtain⟨i,hA,hS,hi,he,rfl⟩:=hI;refine rC 2 hA ?_;clear hA a;refine aR 0 0 (aw rfl rfl) ?_ ?_
 ·intro h8;refine uO 11 ?_;obtain⟨A_p,rfl⟩:∃q,A=some q:=(hR.sat hS).av (by omega);obtain⟨x,hx⟩:∃zz_,rs[i]?=some zz_:=⟨_,List.getElem?_eq_getElem (by omega)⟩;have hxo:=hE x (List.mem_of_getElem? hx);obtain⟨hxv,hxc⟩:=hB.get hx;refine u1 0 (aj rfl rfl db bT (by omega) (by omega)) ?_;refine u1 0 (ad (cs:=iX x) rfl gI bT (fun j u e=>bJ (hR.sat hS) (cR hx j u e))) ?_;refine uN mH hS ?_;clear hS;intro b4 w hS;refine uO 1 ?_;refine uW (vs:=[_,_,_]) (cs':=[_,_,_]) rfl rfl bT hS ?_;clear hS;intro w hS;refine uO 3 ?_;intro a hA;refine bh [13] hS (by kernel_rfl) ?_;replace hS:=hS.drew;refine X1 0 [] hA rfl (by exact⟨[],hS⟩) (fun w hT=>have hS:=hT.sat;(ad (cs:=[_,_,_]) (hA.ev rfl) gI bT (by exact hS.ag (xs:=[_,_,_]) rfl))) ?_;clear hA a;intro a hA;refine aG 1 (by kernel_rfl) ?_
  refine eF hA rfl rfl Iu rfl (qh _ x (hxo.sat hS) hxv hxc) ?_;clear hA a;rintro e w ⟨rfl,hT⟩;replace hS:Sat _ _ _:=hS.ai hT;clear hT;refine⟨_,rfl,?_⟩;intro a hA;refine⟨.inr fun _=>(by exact⟨[],hS⟩),?_⟩;refine K.GW 2 hA pk rfl rfl rfl rfl (by kernel_rfl) (by kernel_rfl) (by kernel_rfl) (fun w=>(aK (hA.ev rfl) (hA.ev rfl))) ?_ ?_
  ·clear hA a;intro h14;refine uX [3,4,5,6,7,8,9,10,11,12,13,14,15,16] ?_;intro a hA;refine ak (by kernel_rfl) ?_ _;refine rE 13 hA ?_;clear hA a;refine aX ?_;have hok:fx x.d=false:=by rw[←jF];simpa using h14
   have hst:fm (ahead none (rs.map RL.d) i) x.d=false:=by unfold fm;rw[hok];rfl
   have hf:cz (rs.map RL.d)=false:=dG (bR hx) hst;exact⟨by simp[hf],hS.nil⟩
  ·clear hA a;intro h14;refine uX [3,4] ?_;intro a hA;refine K.D4 5 hA pk rfl (ao hA rfl rfl rfl) rfl rfl (by kernel_rfl) (by kernel_rfl) (by kernel_rfl) (fun w=>(dv (hA.ev rfl) (hA.ev rfl))) ?_ ?_
   ·clear hA a;intro h17;refine uX [6,7,8] ?_;refine bz 9 [] rfl (fun w=>(aJ (aZ rfl rfl (by omega) (by omega)) (show _=Value.int .i64 ((i-1:Nat):Int) from congrArg (Value.int .i64) (by omega)))) ?_;obtain⟨y,hy⟩:∃zz_,rs[i-1]?=some zz_:=⟨_,List.getElem?_eq_getElem (by omega)⟩;have hyo:=hE y (List.mem_of_getElem? hy);obtain⟨hyv,hyc⟩:=hB.get hy;refine bz 10 [] rfl (fun w=>(aj rfl rfl db bT (by omega) (by omega))) ?_;refine cT 11 [] rfl (by exact⟨[],hS⟩) (fun w hT=>have hS:=hT.sat;(ad (cs:=iX y) rfl gI bT (fun j u e=>bJ (hR.sat hS) (cR hy j u e)))) ?_;refine cT 12 [] rfl (by exact⟨[],hS⟩) (fun w hT=>have hS:=hT.sat;(ad (cs:=[_,_,_]) rfl gI bT (by exact hS.ag (xs:=[_,_,_]) rfl))) ?_;intro a hA;refine aG 13 (by kernel_rfl) ?_
    refine Fc hA rfl (ao hA rfl rfl rfl) rfl IU rfl (tT _ y x (hyo.sat hS) (hxo.sat hS) hyc hxc) ?_;clear hA a;rintro e w ⟨rfl,hT⟩;replace hS:Sat _ _ _:=hS.ai hT;clear hT;refine⟨_,rfl,?_⟩;intro a hA;refine⟨.inl rfl,?_⟩;refine K.D4 14 hA pk rfl (ao hA rfl rfl rfl) rfl rfl (by kernel_rfl) (by kernel_rfl) (by kernel_rfl) (fun w=>(eo (hA.ev rfl) (hA.ev rfl))) ?_ ?_
    ·clear hA a;intro h26;refine uX [15,16] ?_;intro a hA;refine ak (by kernel_rfl) ?_ _;refine rE 13 hA ?_;clear hA a;refine aX ?_;have hok:fx x.d=true:=by rw[←jF];simpa using h14
     have hst:fm (ahead none (rs.map RL.d) i) x.d=false:=by
      unfold fm ahead;rw[if_neg (by omega),bR hy,hok];simp;omega
     have hf:cz (rs.map RL.d)=false:=dG (bR hx) hst;exact⟨by simp[hf],hS.nil⟩
    ·clear hA a;intro h26;refine uX [15,16] ?_;intro a hA;refine ak (by kernel_rfl) ?_ _;refine rE 6 hA ?_;clear hA a;refine u1 2 (ah rfl rfl (by omega) (by omega)) ?_;intro a hA;replace hA:=hA.kp [0,5,6,7] rfl;have hok:fx x.d=true:=by rw[←jF];simpa using h14
     have hst:fm (ahead none (rs.map RL.d) i) x.d=true:=by
      unfold fm ahead;rw[if_neg (by omega),bR hy,hok];simp;omega
     exact⟨rs.length-(i+1),by omega,i+1,hA,hS.nil,by omega,fun j z hj hz=>(by rcases Nat.lt_or_ge j i with h | h;exact he j z h hz;obtain rfl:j=i:=(by omega);rw[bR hx]at hz;cases hz;exact hst),rfl⟩
   ·clear hA a;intro h17;refine uX [6,7,8,9,10,11,12,13,14,15,16] ?_;intro a hA;refine ak (by kernel_rfl) ?_ _;refine rE 6 hA ?_;clear hA a;refine u1 2 (ah rfl rfl (by omega) (by omega)) ?_;intro a hA;replace hA:=hA.kp [0,5,6,7] rfl;have hok:fx x.d=true:=by rw[←jF];simpa using h14
    have hst:fm (ahead none (rs.map RL.d) i) x.d=true:=by
     obtain rfl:i=0:=by omega
     unfold fm ahead;rw[hok];rfl
    exact⟨rs.length-(i+1),by omega,i+1,hA,hS.nil,by omega,fun j z hj hz=>(by rcases Nat.lt_or_ge j i with h | h;exact he j z h hz;obtain rfl:j=i:=(by omega);rw[bR hx]at hz;cases hz;exact hst),rfl⟩
 ·intro h8;refine uO 15 ?_;refine aX ?_;obtain rfl:i=rs.length:=by omega
  have hf:cz (rs.map RL.d)=true:=df fun j x hx=>he j x (by have:=(List.getElem?_eq_some_iff.1 hx).1;simpa using this) hx
  exact⟨by simp[hf],hS.nil⟩
theorem p6 (W:World)(A:Option Addr)(c:Nat)(rs:List RL)(hR:fO W A c rs)(hE:∀r∈rs,r.p.ok W)(hB:dx 10000000000 rs)(hl:rs.length≤1000000000000):Calls Tryz.prog 181 #[.slice A (rs).length c] W fun e w'=>e=.returned (.int .i64 (if cz (rs.map RL.d)=true then 0 else 1))∧Sat W w' []:=by
 refine enter Tryz.func181 rfl rfl rfl (.cons (i:=0) rfl .nil) ?_;have hS:=Sat.start W;refine uC 12 ?_;intro a hA;refine wp_loop_ghost (fun (mm:Nat) a w=>∃(i:Nat),Ag a 31 [(0,.slice A (rs).length c),(3,.int .i64 ((i:Nat):Int))]∧Sat W w ([])∧(i≤rs.length)∧(∀j x,j<i→(rs.map RL.d)[j]?=some x→fm (ahead none (rs.map RL.d) j) x=true)∧mm=rs.length-i) rs.length ?_ ?_
 ·replace hA:=hA.kp [0,3] rfl;exact⟨0,hA,hS,(by omega),(by intro j x hj;omega),by omega⟩
 intro m a w hI;clear hS hA;obtain⟨i,hA,hS,hi,he,rfl⟩:=hI;refine rC 5 hA ?_;clear hA a;refine u1 0 (ar rfl db) ?_;refine aR 0 0 (aw rfl rfl) ?_ ?_
 ·intro h7;refine uO 12 ?_;obtain⟨A_p,rfl⟩:∃q,A=some q:=(hR.sat hS).av (by omega);obtain⟨x,hx⟩:∃zz_,rs[i]?=some zz_:=⟨_,List.getElem?_eq_getElem (by omega)⟩;have hxo:=hE x (List.mem_of_getElem? hx);obtain⟨hxv,hxc⟩:=hB.get hx;refine u1 0 (aj rfl rfl db bT (by omega) (by omega)) ?_;refine u1 0 (ad (cs:=iX x) rfl gI bT (fun j u e=>bJ (hR.sat hS) (cR hx j u e))) ?_;refine uF IF rfl (pV _ x (hxo.sat hS) hxv hxc) ?_;rintro e w ⟨rfl,hT⟩;replace hS:Sat _ _ _:=hS.ai hT;clear hT;refine⟨_,rfl,?_⟩;refine aR 0 0 (aK rfl rfl) ?_ ?_
  ·intro h15;refine uO 15 ?_;refine aX ?_;have hok:fx x.d=false:=by rw[←jF];simpa using h15
   have hst:fm (ahead none (rs.map RL.d) i) x.d=false:=by unfold fm;rw[hok];rfl
   have hf:cz (rs.map RL.d)=false:=dG (bR hx) hst;exact⟨by simp[hf],hS.nil⟩
  ·intro h15;refine uO 6 ?_;intro a hA;refine bh [12] hS (by kernel_rfl) ?_;replace hS:=hS.drew;refine rX [0] hA ?_;clear hA a;intro a hA;refine K.GW 1 hA pk rfl rfl rfl rfl (by kernel_rfl) (by kernel_rfl) (by kernel_rfl) (fun w=>(dv (hA.ev rfl) (hA.ev rfl))) ?_ ?_
   ·clear hA a;intro h17;refine uX [2,3,4] ?_;refine bz 5 [] rfl (fun w=>(aJ (aZ rfl rfl (by omega) (by omega)) (show _=Value.int .i64 ((i-1:Nat):Int) from congrArg (Value.int .i64) (by omega)))) ?_;obtain⟨y,hy⟩:∃zz_,rs[i-1]?=some zz_:=⟨_,List.getElem?_eq_getElem (by omega)⟩;have hyo:=hE y (List.mem_of_getElem? hy);obtain⟨hyv,hyc⟩:=hB.get hy;refine bz 6 [] rfl (fun w=>(aj rfl rfl db bT (by omega) (by omega))) ?_;refine cT 7 [8,9] rfl (by exact⟨[],hS⟩) (fun w hT=>have hS:=hT.sat;(ad (cs:=iX y) rfl gI bT (fun j u e=>bJ (hR.sat hS) (cR hy j u e)))) ?_;refine bz 10 [] rfl (fun w=>(aj rfl rfl db bT (by omega) (by omega))) ?_;refine cT 11 [] rfl (by exact⟨[],hS⟩) (fun w hT=>have hS:=hT.sat;(ad (cs:=iX x) rfl gI bT (fun j u e=>bJ (hR.sat hS) (cR hx j u e)))) ?_;intro a hA;refine aG 12 (by kernel_rfl) ?_
    refine Fc hA rfl (ao hA rfl rfl rfl) rfl IY rfl (uh _ y x (hyo.sat hS) (hxo.sat hS) hyc hxc) ?_;clear hA a;rintro e w ⟨rfl,hT⟩;replace hS:Sat _ _ _:=hS.ai hT;clear hT;refine⟨_,rfl,?_⟩;intro a hA;refine⟨.inl rfl,?_⟩;refine K.D4 13 hA pk rfl (ao hA rfl rfl rfl) rfl rfl (by kernel_rfl) (by kernel_rfl) (by kernel_rfl) (fun w=>(eo (hA.ev rfl) (hA.ev rfl))) ?_ ?_
    ·clear hA a;intro h29;refine uX [14] ?_;intro a hA;refine ak (by kernel_rfl) ?_ _;refine rE 13 hA ?_;clear hA a;refine aX ?_;have hok:fx x.d=true:=by rw[←jF];simpa using h15
     have hst:fm (ahead none (rs.map RL.d) i) x.d=false:=by
      unfold fm ahead;rw[if_neg (by omega),bR hy,hok];simp;omega
     have hf:cz (rs.map RL.d)=false:=dG (bR hx) hst;exact⟨by simp[hf],hS.nil⟩
    ·clear hA a;intro h29;refine uX [14] ?_;intro a hA;refine ak (by kernel_rfl) ?_ _;refine rE 7 hA ?_;clear hA a;refine u1 2 (ah rfl rfl (by omega) (by omega)) ?_;intro a hA;replace hA:=hA.kp [0,3] rfl;have hok:fx x.d=true:=by rw[←jF];simpa using h15
     have hst:fm (ahead none (rs.map RL.d) i) x.d=true:=by
      unfold fm ahead;rw[if_neg (by omega),bR hy,hok];simp;omega
     exact⟨rs.length-(i+1),by omega,i+1,hA,hS.nil,by omega,fun j z hj hz=>(by rcases Nat.lt_or_ge j i with h | h;exact he j z h hz;obtain rfl:j=i:=(by omega);rw[bR hx]at hz;cases hz;exact hst),rfl⟩
   ·clear hA a;intro h17;refine uX [2,3,4,5,6,7,8,9,10,11,12,13,14] ?_;intro a hA;refine ak (by kernel_rfl) ?_ _;refine rE 7 hA ?_;clear hA a;refine u1 2 (ah rfl rfl (by omega) (by omega)) ?_;intro a hA;replace hA:=hA.kp [0,3] rfl;have hok:fx x.d=true:=by rw[←jF];simpa using h15
    have hst:fm (ahead none (rs.map RL.d) i) x.d=true:=by
     obtain rfl:i=0:=by omega
     unfold fm ahead;rw[hok];rfl
    exact⟨rs.length-(i+1),by omega,i+1,hA,hS.nil,by omega,fun j z hj hz=>(by rcases Nat.lt_or_ge j i with h | h;exact he j z h hz;obtain rfl:j=i:=(by omega);rw[bR hx]at hz;cases hz;exact hst),rfl⟩
 ·intro h7;refine uO 14 ?_;refine aX ?_;obtain rfl:i=rs.length:=by omega
  have hf:cz (rs.map RL.d)=true:=df fun j x hx=>he j x (by have:=(List.getElem?_eq_some_iff.1 hx).1;simpa using this) hx
  exact⟨by simp[hf],hS.nil⟩
theorem vR (W:World)(r:RL)(hp:r.p.ok W)(hrv:r.p.d.vec.length≤1000000000000)(hrc:r.p.d.ab.length≤10000000000):Calls Tryz.prog 268 #[.agg #[.string r.cy,.slice r.p.va r.p.d.vec.length r.p.vc,.slice r.p.ca r.p.d.ab.length r.p.cc]] W fun e w'=>e=.returned (.bool (fx r.d))∧Sat W w' []:=by
 refine enter Tryz.func268 rfl rfl rfl (.cons (i:=0) rfl .nil) ?_;have hS:=Sat.start W;refine uC 2 ?_;refine uB rfl hS ?_;clear hS;intro b1 w hS;refine uO 5 ?_;refine u1 0 (aa rfl bY) ?_;refine u1 0 (ld rfl lq) ?_;refine aR 0 0 (iK rfl rfl) ?_ ?_
 ·intro h5;refine uO 6 ?_;refine u1 0 (aa rfl bM) ?_;refine u1 0 (ad (cs:=[_,_]) rfl a6 aC (by exact hS.ag (xs:=[_,_]) rfl)) ?_;intro a hA;refine dQ hA (ao hA rfl rfl rfl) rfl u9 rfl (fe _ r.p (hp.sat hS) hrc hrv) ?_;clear hA a;rintro e w ⟨rfl,hT⟩;replace hS:Sat _ _ _:=hS.ai hT;clear hT;generalize h14:(bL r.p.d)=bb;cases bb
  ·refine⟨_,rfl,?_⟩;refine uO 11 ?_;refine aX ?_;refine⟨?_,hS.nil⟩;unfold fx RL.d;dsimp only;rw[decide_eq_true h5,h14];simp
  ·refine⟨_,rfl,?_⟩;refine uO 2 ?_;refine u1 0 (aa rfl bM) ?_;refine u1 0 (ad (cs:=[_,_]) rfl a6 aC (by exact hS.ag (xs:=[_,_]) rfl)) ?_;intro a hA;refine dQ hA (ao hA rfl rfl rfl) rfl yJ rfl (iR _ r.p (hp.sat hS) hrc) ?_;clear hA a;rintro e w ⟨rfl,hT⟩;replace hS:Sat _ _ _:=hS.ai hT;clear hT;refine⟨_,rfl,?_⟩;refine u1 5 (aM rfl) ?_;refine aX ?_;refine⟨?_,hS.nil⟩;unfold fx RL.d;dsimp only;rw[decide_eq_true h5,h14];simp
 ·intro h5;refine uO 1 ?_;refine u1 0 (aa rfl bY) ?_;refine u1 0 (ld rfl lq) ?_;intro a hA;refine dQ hA (ao hA rfl rfl rfl) rfl yZ rfl (gi _ r.cy) ?_;clear hA a;rintro e w ⟨rfl,hT⟩;replace hS:Sat _ _ _:=hS.ai hT;clear hT;generalize h9:(mv r.cy)=bb;cases bb
  ·refine⟨_,rfl,?_⟩;refine uO 16 ?_;refine aX ?_;refine⟨?_,hS.nil⟩;unfold fx RL.d;dsimp only;rw[decide_eq_false h5,h9];rfl
  ·refine⟨_,rfl,?_⟩;refine uO 2 ?_;refine u1 0 (aa rfl bM) ?_;refine u1 0 (ad (cs:=[_,_]) rfl a6 aC (by exact hS.ag (xs:=[_,_]) rfl)) ?_;intro a hA;refine dQ hA (ao hA rfl rfl rfl) rfl u9 rfl (fe _ r.p (hp.sat hS) hrc hrv) ?_;clear hA a;rintro e w ⟨rfl,hT⟩;replace hS:Sat _ _ _:=hS.ai hT;clear hT;generalize h14:(bL r.p.d)=bb;cases bb
   ·refine⟨_,rfl,?_⟩;refine uO 11 ?_;refine aX ?_;refine⟨?_,hS.nil⟩;unfold fx RL.d;dsimp only;rw[decide_eq_false h5,h9,h14];simp
   ·refine⟨_,rfl,?_⟩;refine uO 2 ?_;refine u1 0 (aa rfl bM) ?_;refine u1 0 (ad (cs:=[_,_]) rfl a6 aC (by exact hS.ag (xs:=[_,_]) rfl)) ?_;intro a hA;refine dQ hA (ao hA rfl rfl rfl) rfl yJ rfl (iR _ r.p (hp.sat hS) hrc) ?_;clear hA a;rintro e w ⟨rfl,hT⟩;replace hS:Sat _ _ _:=hS.ai hT;clear hT;refine⟨_,rfl,?_⟩;refine u1 5 (aM rfl) ?_;refine aX ?_;refine⟨?_,hS.nil⟩;unfold fx RL.d;dsimp only;rw[decide_eq_false h5,h9,h14];simp
theorem vm (W:World)(A:Option Addr)(c:Nat)(rs:List RL)(hR:fO W A c rs)(hE:∀r∈rs,r.p.ok W)(hB:dx 10000000000 rs)(hl:rs.length≤1000000000000):Calls Tryz.prog 235 #[.slice A (rs).length c] W fun e w'=>e=.returned (.bool (cz (rs.map RL.d)))∧Sat W w' []:=by
 refine enter Tryz.func235 rfl rfl rfl (.cons (i:=0) rfl .nil) ?_;have hS:=Sat.start W;refine uC 12 ?_;intro a hA;refine wp_loop_ghost (fun (mm:Nat) a w=>∃(i:Nat),Ag a 49 [(0,.slice A (rs).length c),(3,.int .i64 ((i:Nat):Int))]∧Sat W w ([])∧(i≤rs.length)∧(∀j x,j<i→(rs.map RL.d)[j]?=some x→fm (ahead none (rs.map RL.d) j) x=true)∧mm=rs.length-i) rs.length ?_ ?_
 ·replace hA:=hA.kp [0,3] rfl;exact⟨0,hA,hS,(by omega),(by intro j x hj;omega),by omega⟩
 intro m a w hI;clear hS hA;obtain⟨i,hA,hS,hi,he,rfl⟩:=hI;refine rC 5 hA ?_;clear hA a;refine u1 0 (ar rfl db) ?_;refine aR 0 0 (aw rfl rfl) ?_ ?_
 ·intro h9;refine uO 12 ?_;obtain⟨A_p,rfl⟩:∃q,A=some q:=(hR.sat hS).av (by omega);obtain⟨x,hx⟩:∃zz_,rs[i]?=some zz_:=⟨_,List.getElem?_eq_getElem (by omega)⟩;have hxo:=hE x (List.mem_of_getElem? hx);obtain⟨hxv,hxc⟩:=hB.get hx;refine u1 0 (aj rfl rfl db bT (by omega) (by omega)) ?_;refine u1 0 (ad (cs:=iX x) rfl gI bT (fun j u e=>bJ (hR.sat hS) (cR hx j u e))) ?_;refine uF Ji rfl (vR _ x (hxo.sat hS) hxv hxc) ?_;rintro e w ⟨rfl,hT⟩;replace hS:Sat _ _ _:=hS.ai hT;clear hT;generalize h16:(fx x.d)=bb;cases bb
  ·refine⟨_,rfl,?_⟩;refine u1 15 (aM rfl) ?_;refine aX ?_;have hok:fx x.d=false:=by simpa using h16
   have hst:fm (ahead none (rs.map RL.d) i) x.d=false:=by unfold fm;rw[hok];rfl
   have hf:cz (rs.map RL.d)=false:=dG (bR hx) hst;exact⟨by simp[hf],hS.nil⟩
  ·refine⟨_,rfl,?_⟩;refine u1 8 (aM rfl) ?_;refine aR 0 0 (dv rfl rfl) ?_ ?_
   ·intro h19;refine uO 4 ?_;intro a hA;refine bh [12] hS (by kernel_rfl) ?_;replace hS:=hS.drew;refine rX [0,1] hA ?_;clear hA a;refine bz 2 [] rfl (fun w=>(aJ (aZ rfl rfl (by omega) (by omega)) (show _=Value.int .i64 ((i-1:Nat):Int) from congrArg (Value.int .i64) (by omega)))) ?_;obtain⟨y,hy⟩:∃zz_,rs[i-1]?=some zz_:=⟨_,List.getElem?_eq_getElem (by omega)⟩;have hyo:=hE y (List.mem_of_getElem? hy);obtain⟨hyv,hyc⟩:=hB.get hy
    refine bz 3 [] rfl (fun w=>(aj rfl rfl db bT (by omega) (by omega))) ?_;refine cT 4 [5,6] rfl (by exact⟨[],hS⟩) (fun w hT=>have hS:=hT.sat;(ad (cs:=iX y) rfl gI bT (fun j u e=>bJ (hR.sat hS) (cR hy j u e)))) ?_;refine bz 7 [] rfl (fun w=>(aj rfl rfl db bT (by omega) (by omega))) ?_;refine cT 8 [] rfl (by exact⟨[],hS⟩) (fun w hT=>have hS:=hT.sat;(ad (cs:=iX x) rfl gI bT (fun j u e=>bJ (hR.sat hS) (cR hx j u e)))) ?_;intro a hA;refine mZ 9 10 (by kernel_rfl) ?_ ?_
    ·refine eN hA rfl rfl mH hS ?_;clear hA a hS;intro b4 w hS;intro a hA;refine⟨.inr fun _=>(by exact⟨[_],hS⟩),?_⟩;refine aG 10 (by kernel_rfl) ?_;refine eN hA rfl rfl mH hS ?_;clear hA a hS;intro b5 w hS;intro a hA;refine⟨.inr fun _=>(by exact⟨[_,_],hS⟩),?_⟩;refine aG 11 (by kernel_rfl) ?_;refine dq (vs:=[_,_,_]) (cs':=[_,_,_]) hA rfl rfl rfl bT (by simp[Value.oneCell']) (hS.p 1) rfl rfl ?_;clear hS;intro w hS;refine⟨.inr fun _=>(by exact⟨[_,_],hS⟩),?_⟩;refine aG 12 (by kernel_rfl) ?_;refine dq (vs:=[_,_,_]) (cs':=[_,_,_]) hA rfl rfl rfl bT (by simp[Value.oneCell']) (hS.p 1) rfl rfl ?_;clear hS;intro w hS;refine⟨.inl rfl,?_⟩;refine ak (by kernel_rfl) ?_ _;refine rE 3 hA ?_;clear hA a;refine u1 0 (aa rfl bY) ?_;refine u1 0 (ld rfl lq) ?_;refine u1 0 (aa rfl bY) ?_;refine u1 0 (ld rfl lq) ?_
     refine nb 0 0 (Dx rfl rfl) ?_ ?_
     ·intro h33;refine uO 29 ?_;refine aX ?_;have hok:fx x.d=true:=by simpa using h16
      have hst:fm (ahead none (rs.map RL.d) i) x.d=false:=by
       unfold fm ahead;rw[if_neg (by omega),bR hy,hok];unfold gN RL.d;dsimp only;rw[B8 h33,if_neg (by decide)];rfl
      have hf:cz (rs.map RL.d)=false:=dG (bR hx) hst;exact⟨by simp[hf],hS.nil⟩
     ·intro h33;refine uO 1 ?_;refine u1 0 (aa rfl bY) ?_;refine u1 0 (ld rfl lq) ?_;refine u1 0 (aa rfl bY) ?_;refine u1 0 (ld rfl lq) ?_;refine aR 0 0 (iK rfl rfl) ?_ ?_
      ·intro h39;refine uO 1 ?_;refine u1 0 (aa rfl bM) ?_;refine u1 0 (ad (cs:=[_,_]) rfl a6 aC (by exact (hS.p 1).ag (xs:=[_,_]) rfl)) ?_;refine u1 0 (aa rfl bM) ?_;refine u1 0 (ad (cs:=[_,_]) rfl a6 aC (by exact hS.ag (xs:=[_,_]) rfl)) ?_;intro a hA;refine dQ hA (ao hA rfl rfl rfl) rfl Ew rfl (k9 _ y.p x.p (hyo.sat hS) (hxo.sat hS) hyc hxc) ?_;clear hA a;rintro e w ⟨rfl,hT⟩;replace hS:Sat _ _ _:=hS.ai hT;clear hT;refine⟨_,rfl,?_⟩;refine aR 0 0 (eo rfl rfl) ?_ ?_
       ·intro h46;refine uO 16 ?_;refine aX ?_;have hok:fx x.d=true:=by simpa using h16
        have hst:fm (ahead none (rs.map RL.d) i) x.d=false:=by
         unfold fm ahead;rw[if_neg (by omega),bR hy,hok];unfold gN RL.d;dsimp only;rw[show x7 y.cy x.cy=0 from qI.2 h39,if_pos rfl];simp;omega
        have hf:cz (rs.map RL.d)=false:=dG (bR hx) hst;exact⟨by simp[hf],hS.nil⟩
       ·intro h46;refine uO 10 ?_;refine u1 2 (ah rfl rfl (by omega) (by omega)) ?_;intro a hA;replace hA:=hA.kp [0,3] rfl;have hok:fx x.d=true:=by simpa using h16
        have hst:fm (ahead none (rs.map RL.d) i) x.d=true:=by
         unfold fm ahead;rw[if_neg (by omega),bR hy,hok];unfold gN RL.d;dsimp only;rw[show x7 y.cy x.cy=0 from qI.2 h39,if_pos rfl];simp;omega
        exact⟨rs.length-(i+1),by omega,i+1,hA,hS.nil,by omega,fun j z hj hz=>(by rcases Nat.lt_or_ge j i with h | h;exact he j z h hz;obtain rfl:j=i:=(by omega);rw[bR hx]at hz;cases hz;exact hst),rfl⟩
      ·intro h39;refine uO 17 ?_;refine u1 2 (ah rfl rfl (by omega) (by omega)) ?_;intro a hA;replace hA:=hA.kp [0,3] rfl;have hok:fx x.d=true:=by simpa using h16
       have hst:fm (ahead none (rs.map RL.d) i) x.d=true:=by
        unfold fm ahead;rw[if_neg (by omega),bR hy,hok];unfold gN RL.d;dsimp only;rw[Cb h33 h39,if_neg (by decide)];rfl
       exact⟨rs.length-(i+1),by omega,i+1,hA,hS.nil,by omega,fun j z hj hz=>(by rcases Nat.lt_or_ge j i with h | h;exact he j z h hz;obtain rfl:j=i:=(by omega);rw[bR hx]at hz;cases hz;exact hst),rfl⟩
    ·refine eN hA rfl rfl mH hS ?_;clear hA a hS;intro b5 w hS;intro a hA;refine⟨.inr fun _=>(by exact⟨[_],hS⟩),?_⟩;refine aG 9 (by kernel_rfl) ?_;refine eN hA rfl rfl mH hS ?_;clear hA a hS;intro b4 w hS;intro a hA;refine⟨.inr fun _=>(by exact⟨[_,_],hS⟩),?_⟩;refine aG 11 (by kernel_rfl) ?_;refine dq (vs:=[_,_,_]) (cs':=[_,_,_]) hA rfl rfl rfl bT (by simp[Value.oneCell']) hS rfl rfl ?_;clear hS;intro w hS;refine⟨.inr fun _=>(by exact⟨[_,_],hS⟩),?_⟩;refine aG 12 (by kernel_rfl) ?_;refine dq (vs:=[_,_,_]) (cs':=[_,_,_]) hA rfl rfl rfl bT (by simp[Value.oneCell']) (hS.p 1) rfl rfl ?_;clear hS;intro w hS;refine⟨.inl rfl,?_⟩;refine ak (by kernel_rfl) ?_ _;refine rE 3 hA ?_;clear hA a;refine u1 0 (aa rfl bY) ?_;refine u1 0 (ld rfl lq) ?_;refine u1 0 (aa rfl bY) ?_;refine u1 0 (ld rfl lq) ?_
     refine nb 0 0 (Dx rfl rfl) ?_ ?_
     ·intro h33;refine uO 29 ?_;refine aX ?_;have hok:fx x.d=true:=by simpa using h16
      have hst:fm (ahead none (rs.map RL.d) i) x.d=false:=by
       unfold fm ahead;rw[if_neg (by omega),bR hy,hok];unfold gN RL.d;dsimp only;rw[B8 h33,if_neg (by decide)];rfl
      have hf:cz (rs.map RL.d)=false:=dG (bR hx) hst;exact⟨by simp[hf],hS.nil⟩
     ·intro h33;refine uO 1 ?_;refine u1 0 (aa rfl bY) ?_;refine u1 0 (ld rfl lq) ?_;refine u1 0 (aa rfl bY) ?_;refine u1 0 (ld rfl lq) ?_;refine aR 0 0 (iK rfl rfl) ?_ ?_
      ·intro h39;refine uO 1 ?_;refine u1 0 (aa rfl bM) ?_;refine u1 0 (ad (cs:=[_,_]) rfl a6 aC (by exact (hS.p 1).ag (xs:=[_,_]) rfl)) ?_;refine u1 0 (aa rfl bM) ?_;refine u1 0 (ad (cs:=[_,_]) rfl a6 aC (by exact hS.ag (xs:=[_,_]) rfl)) ?_;intro a hA;refine dQ hA (ao hA rfl rfl rfl) rfl Ew rfl (k9 _ y.p x.p (hyo.sat hS) (hxo.sat hS) hyc hxc) ?_;clear hA a;rintro e w ⟨rfl,hT⟩;replace hS:Sat _ _ _:=hS.ai hT;clear hT;refine⟨_,rfl,?_⟩;refine aR 0 0 (eo rfl rfl) ?_ ?_
       ·intro h46;refine uO 16 ?_;refine aX ?_;have hok:fx x.d=true:=by simpa using h16
        have hst:fm (ahead none (rs.map RL.d) i) x.d=false:=by
         unfold fm ahead;rw[if_neg (by omega),bR hy,hok];unfold gN RL.d;dsimp only;rw[show x7 y.cy x.cy=0 from qI.2 h39,if_pos rfl];simp;omega
        have hf:cz (rs.map RL.d)=false:=dG (bR hx) hst;exact⟨by simp[hf],hS.nil⟩
       ·intro h46;refine uO 10 ?_;refine u1 2 (ah rfl rfl (by omega) (by omega)) ?_;intro a hA;replace hA:=hA.kp [0,3] rfl;have hok:fx x.d=true:=by simpa using h16
        have hst:fm (ahead none (rs.map RL.d) i) x.d=true:=by
         unfold fm ahead;rw[if_neg (by omega),bR hy,hok];unfold gN RL.d;dsimp only;rw[show x7 y.cy x.cy=0 from qI.2 h39,if_pos rfl];simp;omega
        exact⟨rs.length-(i+1),by omega,i+1,hA,hS.nil,by omega,fun j z hj hz=>(by rcases Nat.lt_or_ge j i with h | h;exact he j z h hz;obtain rfl:j=i:=(by omega);rw[bR hx]at hz;cases hz;exact hst),rfl⟩
      ·intro h39;refine uO 17 ?_;refine u1 2 (ah rfl rfl (by omega) (by omega)) ?_;intro a hA;replace hA:=hA.kp [0,3] rfl;have hok:fx x.d=true:=by simpa using h16
       have hst:fm (ahead none (rs.map RL.d) i) x.d=true:=by
        unfold fm ahead;rw[if_neg (by omega),bR hy,hok];unfold gN RL.d;dsimp only;rw[Cb h33 h39,if_neg (by decide)];rfl
       exact⟨rs.length-(i+1),by omega,i+1,hA,hS.nil,by omega,fun j z hj hz=>(by rcases Nat.lt_or_ge j i with h | h;exact he j z h hz;obtain rfl:j=i:=(by omega);rw[bR hx]at hz;cases hz;exact hst),rfl⟩
   ·intro h19;refine uO 8 ?_;refine u1 2 (ah rfl rfl (by omega) (by omega)) ?_;intro a hA;replace hA:=hA.kp [0,3] rfl;have hok:fx x.d=true:=by simpa using h16
    have hst:fm (ahead none (rs.map RL.d) i) x.d=true:=by
     obtain rfl:i=0:=by omega
     unfold fm ahead;rw[hok];rfl
    exact⟨rs.length-(i+1),by omega,i+1,hA,hS.nil,by omega,fun j z hj hz=>(by rcases Nat.lt_or_ge j i with h | h;exact he j z h hz;obtain rfl:j=i:=(by omega);rw[bR hx]at hz;cases hz;exact hst),rfl⟩
 ·intro h9;refine uO 14 ?_;refine aX ?_;obtain rfl:i=rs.length:=by omega
  have hf:cz (rs.map RL.d)=true:=df fun j x hx=>he j x (by have:=(List.getElem?_eq_some_iff.1 hx).1;simpa using this) hx
  exact⟨by simp[hf],hS.nil⟩
theorem xM (W:World)(r:RL)(e1:aV)(hp:r.p.ok W)(hrv:r.p.d.vec.length≤1000000000000)(hrc:r.p.d.ab.length≤10000000000):Calls Tryz.prog 376 #[.agg #[.string r.cy,.slice r.p.va r.p.d.vec.length r.p.vc,.slice r.p.ca r.p.d.ab.length r.p.cc],.agg #[.int .i64 e1.rep,.int .i64 e1.num,.string e1.cy,.int .i64 e1.p4]] W fun e w'=>e=.returned (.bool (gZ r.d e1))∧Sat W w' []:=by
 refine enter Tryz.func376 rfl rfl rfl (.cons (i:=0) rfl (.cons (i:=1) rfl .nil)) ?_;have hS:=Sat.start W;refine uC 2 ?_;refine uB rfl hS ?_;clear hS;intro b2 w hS;refine uB rfl hS ?_;clear hS;intro b3 w hS;refine uO 5 ?_;refine u1 0 (aa rfl bY) ?_;refine u1 0 (ld rfl lq) ?_;refine aR 0 0 (iK rfl rfl) ?_ ?_
 ·intro h7;refine uO 8 ?_;refine u1 0 (aa rfl bM) ?_;refine u1 0 (ad (cs:=[_,_]) rfl a6 aC (by exact (hS.p 1).ag (xs:=[_,_]) rfl)) ?_;refine u1 0 (aa rfl cm) ?_;refine u1 0 (ad (cs:=[_,_]) rfl gk dZ (by exact hS.ag (xs:=[_,_]) rfl)) ?_;intro a hA;refine dQ hA (ao hA rfl rfl rfl) rfl GI rfl (vY _ r.p e1.rep e1.num (hp.sat hS) hrv (by omega)) ?_;clear hA a;rintro e w ⟨rfl,hT⟩;replace hS:Sat _ _ _:=hS.ai hT;clear hT;refine⟨_,rfl,?_⟩;refine uO 5 ?_;refine aX ?_;refine⟨?_,hS.nil⟩;unfold gZ RL.d;dsimp only;rw[decide_eq_true h7];rfl
 ·intro h7;refine uO 1 ?_;refine u1 0 (aa rfl bY) ?_;refine u1 0 (ld rfl lq) ?_;refine u1 0 (aa rfl jt) ?_;refine u1 0 (ld rfl lq) ?_;refine aR 0 0 (iK rfl rfl) ?_ ?_
  ·intro h13;refine uO 2 ?_;refine u1 0 (aa rfl bM) ?_;refine u1 0 (ad (cs:=[_,_]) rfl a6 aC (by exact (hS.p 1).ag (xs:=[_,_]) rfl)) ?_;refine u1 0 (aa rfl cm) ?_;refine u1 0 (ad (cs:=[_,_]) rfl gk dZ (by exact hS.ag (xs:=[_,_]) rfl)) ?_;intro a hA;refine dQ hA (ao hA rfl rfl rfl) rfl GI rfl (vY _ r.p e1.rep e1.num (hp.sat hS) hrv (by omega)) ?_;clear hA a;rintro e w ⟨rfl,hT⟩;replace hS:Sat _ _ _:=hS.ai hT;clear hT;refine⟨_,rfl,?_⟩;refine uO 5 ?_;refine aX ?_;refine⟨?_,hS.nil⟩;unfold gZ RL.d;dsimp only;rw[decide_eq_true h13];simp
  ·intro h13;refine uO 12 ?_;refine aX ?_;refine⟨?_,hS.nil⟩;unfold gZ RL.d;dsimp only;rw[decide_eq_false h7,decide_eq_false h13];rfl
theorem vz (W:World)(r:RL)(e1:aV)(hp:r.p.ok W)(hrv:r.p.d.vec.length≤1000000000000)(hrc:r.p.d.ab.length≤10000000000):Calls Tryz.prog 238 #[.agg #[.string r.cy,.slice r.p.va r.p.d.vec.length r.p.vc,.slice r.p.ca r.p.d.ab.length r.p.cc],.agg #[.int .i64 e1.rep,.int .i64 e1.num,.string e1.cy,.int .i64 e1.p4]] W fun e w'=>e=.returned (.bool (gZ r.d e1))∧Sat W w' []:=by
 refine enter Tryz.func238 rfl rfl rfl (.cons (i:=0) rfl (.cons (i:=1) rfl .nil)) ?_;have hS:=Sat.start W;refine uC 2 ?_;refine uB rfl hS ?_;clear hS;intro b2 w hS;refine uB rfl hS ?_;clear hS;intro b3 w hS;refine uO 5 ?_;refine u1 0 (aa rfl bY) ?_;refine u1 0 (ld rfl lq) ?_;refine aR 0 0 (iK rfl rfl) ?_ ?_
 ·intro h7;refine uO 8 ?_;refine u1 0 (aa rfl bM) ?_;refine u1 0 (ad (cs:=[_,_]) rfl a6 aC (by exact (hS.p 1).ag (xs:=[_,_]) rfl)) ?_;refine u1 0 (aa rfl cm) ?_;refine u1 0 (ad (cs:=[_,_]) rfl gk dZ (by exact hS.ag (xs:=[_,_]) rfl)) ?_;intro a hA;refine dQ hA (ao hA rfl rfl rfl) rfl Ga rfl (tv _ r.p e1.rep e1.num (hp.sat hS) hrv (by omega)) ?_;clear hA a;rintro e w ⟨rfl,hT⟩;replace hS:Sat _ _ _:=hS.ai hT;clear hT;refine⟨_,rfl,?_⟩;refine uO 5 ?_;refine aX ?_;refine⟨?_,hS.nil⟩;unfold gZ RL.d;dsimp only;rw[decide_eq_true h7];rfl
 ·intro h7;refine uO 1 ?_;refine u1 0 (aa rfl bY) ?_;refine u1 0 (ld rfl lq) ?_;refine u1 0 (aa rfl jt) ?_;refine u1 0 (ld rfl lq) ?_;refine aR 0 0 (iK rfl rfl) ?_ ?_
  ·intro h13;refine uO 2 ?_;refine u1 0 (aa rfl bM) ?_;refine u1 0 (ad (cs:=[_,_]) rfl a6 aC (by exact (hS.p 1).ag (xs:=[_,_]) rfl)) ?_;refine u1 0 (aa rfl cm) ?_;refine u1 0 (ad (cs:=[_,_]) rfl gk dZ (by exact hS.ag (xs:=[_,_]) rfl)) ?_;intro a hA;refine dQ hA (ao hA rfl rfl rfl) rfl Ga rfl (tv _ r.p e1.rep e1.num (hp.sat hS) hrv (by omega)) ?_;clear hA a;rintro e w ⟨rfl,hT⟩;replace hS:Sat _ _ _:=hS.ai hT;clear hT;refine⟨_,rfl,?_⟩;refine uO 5 ?_;refine aX ?_;refine⟨?_,hS.nil⟩;unfold gZ RL.d;dsimp only;rw[decide_eq_true h13];simp
  ·intro h13;refine uO 12 ?_;refine aX ?_;refine⟨?_,hS.nil⟩;unfold gZ RL.d;dsimp only;rw[decide_eq_false h7,decide_eq_false h13];rfl
end Go.Proofs.YtkjabaihpkbfhaaGreat.Wk
namespace Go.Proofs.YtkjabaihpkbfhaaGreat.Wk
open Go Go.RowKit Go.Proofs.YtkjabaihpkbfhaaGreat Go.Proofs.YtkjabaihpkbfhaaGreat.K
abbrev ss (e:Nat)(A:Option Addr)(c:Nat)(rs:List RL):As:=row e 3 (.slice A rs.length c) rs.length (rs.flatMap iX)
abbrev gm (ei es:Nat)(rs:List RL):As:=bt (rs.map fun x=>x.p.ch ei es)
theorem kJ {W w:World}{L:List As}{ei es:Nat}{rs:List RL}(s:ByteArray)(q:PL)(h:Sat W w (cI ei q.va q.vc q.d.vec::bK es q.ca q.cc q.d.ab::gm ei es rs::L)):Sat W w (gm ei es (rs++[⟨s,q⟩])::L):=by
 have h1:Sat W w (q.ch ei es::gm ei es rs::L):=PL.EE h;have h2:=h1.vZ;unfold gm;rw[List.map_append];exact h2
theorem qL {W w:World}{L:List As}{er ei es:Nat}{A:Option Addr}{c:Nat}{rs:List RL}(h:Sat W w (ss er A c rs::gm ei es rs::L)):Sat W w ((⟨A,c,rs⟩:jq).ch er ei es::L):=h.shut
def j9 (rs:List bW)(e:aV):Nat:=(rs.filter fun r=>gZ r e).length
theorem uM {rs:List bW}{e:aV}:j9 rs e=0↔bN rs e=false:=by
 unfold j9 bN;rw[List.length_eq_zero_iff,List.filter_eq_nil_iff,List.any_eq_false]
theorem iG {α:Type}{p:α→Bool}{xs:List α}{i:Nat}{x:α}(h:xs[i]?=some x):(xs.take (i+1)).filter p=(xs.take i).filter p++if p x=true then [x] else []:=by
 rw[aD h,List.filter_append]
 congr 1
 by_cases hp:p x=true
 ·
  rw[if_pos hp];simp[hp]
 ·
  rw[if_neg hp];simp[hp]
theorem gj {l:List bW}(h:cz l=true):∀r∈l,fx r=true:=fun r hr=>by
 obtain⟨i,hi⟩:=List.mem_iff_getElem?.1 hr;have:=lC h i r hi;unfold fm at this;rw[Bool.and_eq_true]at this;exact this.1
theorem Dc {r:bW}(h:fx r=true):hJ r.bF=r.bF:=by
 unfold fx bL at h;simp only[Bool.and_eq_true,decide_eq_true_eq]at h;exact h.2.1
theorem Ds:fW (fun _=>[])=⟨[],[]⟩:=by
 unfold fW
 have h1:∀k,cB (bj fun _=>[]) k=0:=by
  intro k
  induction k with
  | zero=>rfl
  | succ k ih=>rw[cB,ih];rfl
 rw[h1]
 congr 1
theorem Cj {f:Nat→List bo}(hf:∀r,can (f r))(h:eE (fW f)=true):fW f=⟨[],[]⟩:=by
 rw[←Ds];refine pz fun r hr=>?_;have h1:=(rV _).1 h r hr;rwa[jL hf hr]at h1
theorem tH {ps:List aL}(h:eE (iB ps)=true):iB ps=⟨[],[]⟩:=Cj (fun r=>et _) h
structure nN (rs:List bW)(i:Nat)(out:List bW)(all:aL):Prop where
 Ix:∀e,bN out e=bN (rs.take i) e
 al:∀r n,hasB all r n=true→∃x∈out,x.cy={ data:=#[] }∧hasB x.bF r n=true
theorem z8 (rs:List bW):nN rs 0 [] ⟨[],[]⟩:=⟨fun e=>by simp[bN],fun r n h=>by simp[hasB,iF,kg]at h⟩
theorem lW (a b:List bW)(e:aV):bN (a++b) e=(bN a e || bN b e):=by unfold bN;rw[List.any_append]
theorem kj {g:List bW}{s:ByteArray}(h:∀x∈g,x.cy=s)(e:aV):bN g e=((decide (s={ data:=#[] }) || decide (s=e.cy)) && hasB (iB (g.map bW.bF)) e.rep e.num):=by
 rw[C0];unfold bN
 induction g with
 | nil=>simp
 | cons x g ih =>
   rw[List.any_cons,List.map_cons,List.any_cons,ih fun y hy=>h y (by simp[hy])];unfold gZ;rw[h x (by simp)];cases (decide (s={ data:=#[] }) || decide (s=e.cy))<;>simp
theorem oG {rs:List bW}{i j:Nat}(h:i≤j)(e:aV):bN (rs.take j) e=(bN (rs.take i) e || bN ((rs.drop i).take (j-i)) e):=by
 rw[←lW]
 congr 1
 have:j=i+(j-i):=by omega
 conv=>lhs;rw[this,List.take_add]
theorem zo {rs out:List bW}{i j:Nat}{all:aL}(h:nN rs i out all)(hij:i≤j)(hg:∀x∈(rs.drop i).take (j-i),x.cy={ data:=#[] })(he:eE (iB (((rs.drop i).take (j-i)).map bW.bF))=false) :
 nN rs j (out++[⟨{ data:=#[] },iB (((rs.drop i).take (j-i)).map bW.bF)⟩]) (iB (((rs.drop i).take (j-i)).map bW.bF)):=by
 refine⟨fun e=>?_,fun r n hr=>⟨⟨{ data:=#[] },iB (((rs.drop i).take (j-i)).map bW.bF)⟩,List.mem_append_right _ (List.mem_singleton.2 rfl),rfl,hr⟩⟩;rw[lW,h.Ix,oG hij,kj hg];simp[bN,gZ]
theorem wc {rs out:List bW}{i j:Nat}{all:aL}(h:nN rs i out all)(hij:i≤j)(hg:∀x∈(rs.drop i).take (j-i),x.cy={ data:=#[] })(he:eE (iB (((rs.drop i).take (j-i)).map bW.bF))=true) :
 nN rs j out (iB (((rs.drop i).take (j-i)).map bW.bF)):=by
 refine⟨fun e=>?_,fun r n hr=>?_⟩
 ·
  rw[h.Ix,oG hij,kj hg,pU he];simp
 ·
  rw[pU he]at hr;cases hr
theorem yq {rs out:List bW}{i:Nat}{all:aL}(h:nN rs i out all){e:aV}(hr:hasB all e.rep e.num=true):bN out e=true:=by
 obtain⟨x,hx,h1,h2⟩:=h.al _ _ hr;unfold bN;rw[List.any_eq_true];exact⟨x,hx,by unfold gZ;rw[h1,h2];simp⟩
theorem zf {rs out:List bW}{i j:Nat}{all:aL}{s:ByteArray}(h:nN rs i out all)(hij:i≤j)(hs:¬s={ data:=#[] })(hg:∀x∈(rs.drop i).take (j-i),x.cy=s) :
 nN rs j (out++[⟨s,j4 (iB (((rs.drop i).take (j-i)).map bW.bF)) all⟩]) all:=by
 refine⟨fun e=>?_,fun r n hr=>?_⟩
 ·
  rw[lW,oG hij,kj hg,←h.Ix];cases ha:hasB all e.rep e.num with
  | true=>rw[yq h ha];simp
  | false=>simp[bN,gZ,tF,ha]
 ·
  obtain⟨x,hx,h1,h2⟩:=h.al r n hr;exact⟨x,by simp[hx],h1,h2⟩
theorem wH {rs out:List bW}{i j:Nat}{all:aL}{s:ByteArray}(h:nN rs i out all)(hij:i≤j)(hg:∀x∈(rs.drop i).take (j-i),x.cy=s)(he:eE (j4 (iB (((rs.drop i).take (j-i)).map bW.bF)) all)=true)(hs:¬s={ data:=#[] }) :
 nN rs j out all:=by
 refine⟨fun e=>?_,h.al⟩;rw[oG hij,kj hg,←h.Ix];have h1:=pU he e.rep e.num;rw[tF]at h1;cases ha:hasB all e.rep e.num with
 | true=>rw[yq h ha];simp
 | false=>rw[ha]at h1;simp at h1;simp[h1]
end Go.Proofs.YtkjabaihpkbfhaaGreat.Wk
namespace Go.Proofs.YtkjabaihpkbfhaaGreat.Wk
open Go Go.RowKit Go.Proofs.YtkjabaihpkbfhaaGreat Go.Proofs.YtkjabaihpkbfhaaGreat.K Go.Proofs.YtkjabaihpkbfhaaGreat.T
theorem AN (W:World)(A:Option Addr)(c:Nat)(rs:List RL)(e1:aV)(hR:fO W A c rs)(hE:∀r∈rs,r.p.ok W)(hB:dx 10000000000 rs)(hl:rs.length≤1000000000000):Calls Tryz.prog 359 #[.slice A (rs).length c,.agg #[.int .i64 e1.rep,.int .i64 e1.num,.string e1.cy,.int .i64 e1.p4]] W fun e w'=>e=.returned (.int .i64 ((j9 (rs.map RL.d) e1:Nat):Int))∧Sat W w' []:=by
 refine enter Tryz.func359 rfl rfl rfl (.cons (i:=0) rfl (.cons (i:=1) rfl .nil)) ?_;have hS:=Sat.start W;refine uC 2 ?_;refine uB rfl hS ?_;clear hS;intro b3 w hS;refine uO 12 ?_;refine u1 4 (ar rfl db) ?_;intro a hA;refine wp_loop_ghost (fun (mm:Nat) a w=>∃(i:Nat),Ag a 21 [(3,.pointer (some ⟨b3,0,none⟩)),(5,.int .i64 (((j9 ((rs.map RL.d).take i) e1):Nat):Int)),(8,.slice A (rs).length c),(9,.int .i64 ((rs.length:Nat):Int)),(10,.int .i64 ((i:Nat):Int))]∧Sat W w ([a8 b3 (.cells #[.int .i64 e1.rep,.int .i64 e1.num,.string e1.cy,.int .i64 e1.p4] 216)])∧(i≤rs.length)∧(j9 ((rs.map RL.d).take i) e1≤i)∧mm=rs.length-i) rs.length ?_ ?_
 ·replace hA:=hA.kp [3,5,8,9,10] rfl;exact⟨0,hA,hS,(by omega),(by simp[j9]),by omega⟩
 intro m a w hI;clear hS hA;obtain⟨i,hA,hS,hi,hn,rfl⟩:=hI;refine rC 2 hA ?_;clear hA a;refine aR 0 0 (aw rfl rfl) ?_ ?_
 ·intro h11;refine uO 10 ?_;obtain⟨A_p,rfl⟩:∃q,A=some q:=(hR.sat hS).av (by omega);obtain⟨x,hx⟩:∃zz_,rs[i]?=some zz_:=⟨_,List.getElem?_eq_getElem (by omega)⟩;have hxo:=hE x (List.mem_of_getElem? hx);obtain⟨hxv,hxc⟩:=hB.get hx;refine u1 0 (aj rfl rfl db bT (by omega) (by omega)) ?_;refine u1 0 (ad (cs:=iX x) rfl gI bT (fun j u e=>bJ (hR.sat hS) (cR hx j u e))) ?_;refine uN mH hS ?_;clear hS;intro b7 w hS;refine uW (vs:=[_,_,_]) (cs':=[_,_,_]) rfl rfl bT hS ?_;clear hS;intro w hS;refine uO 4 ?_;refine u1 0 (ad (cs:=[_,_,_]) rfl gI bT (by exact hS.ag (xs:=[_,_,_]) rfl)) ?_;refine u1 0 (ad (cs:=[_,_,_,_]) rfl ml cX (by exact (hS.p 1).ag (xs:=[_,_,_,_]) rfl)) ?_;refine uF JE rfl (xM _ x e1 (hxo.sat hS) hxv hxc) ?_
  rintro e w ⟨rfl,hT⟩;replace hS:Sat _ _ _:=hS.ai hT;clear hT;generalize h16:(gZ x.d e1)=bb;cases bb
  ·refine⟨_,rfl,?_⟩;refine uO 7 ?_;refine u1 2 (ah rfl rfl (by omega) (by omega)) ?_;intro a hA;replace hA:=hA.kp [3,5,8,9,10] rfl;have ef:j9 ((rs.map RL.d).take (i+1)) e1=j9 ((rs.map RL.d).take i) e1+0:=by unfold j9;rw[iG (bR hx),List.length_append,if_neg (by simp[h16])];rfl
   rw[show j9 ((rs.map RL.d).take i) e1=j9 ((rs.map RL.d).take (i+1)) e1 from ef.symm]at hA;exact⟨rs.length-(i+1),by omega,i+1,hA,hS.drop,by omega,by omega,rfl⟩
  ·refine⟨_,rfl,?_⟩;refine uO 5 ?_;refine u1 5 (ah rfl rfl (by omega) (by omega)) ?_;refine u1 2 (ah rfl rfl (by omega) (by omega)) ?_;intro a hA;replace hA:=hA.kp [3,5,8,9,10] rfl;have ef:j9 ((rs.map RL.d).take (i+1)) e1=j9 ((rs.map RL.d).take i) e1+1:=by unfold j9;rw[iG (bR hx),List.length_append,if_pos h16];rfl
   rw[show ((j9 ((rs.map RL.d).take i) e1:Nat):Int)+1=((j9 ((rs.map RL.d).take (i+1)) e1:Nat):Int) from by rw[ef];rfl]at hA;exact⟨rs.length-(i+1),by omega,i+1,hA,hS.drop,by omega,by omega,rfl⟩
 ·intro h11;refine uO 16 ?_;refine aX ?_;obtain rfl:i=rs.length:=by omega
  rw[List.take_of_length_le (by simp)];exact⟨rfl,hS.nil⟩
theorem qc (W:World)(r:RL)(hp:r.p.ok W)(hrc:r.p.d.ab.length≤10000000000):Calls Tryz.prog 360 #[.agg #[.string r.cy,.slice r.p.va r.p.d.vec.length r.p.vc,.slice r.p.ca r.p.d.ab.length r.p.cc]] W fun e w'=>∃q:PL,e=.returned (.agg #[.string r.cy,.slice q.va q.d.vec.length q.vc,.slice q.ca q.d.ab.length q.cc])∧q.d=hJ r.p.d∧Sat W w' [cI 3 q.va q.vc q.d.vec,bK 219 q.ca q.cc q.d.ab]:=by
 refine enter Tryz.func360 rfl rfl rfl (.cons (i:=0) rfl .nil) ?_;have hS:=Sat.start W;refine uC 2 ?_;refine uB rfl hS ?_;clear hS;intro b1 w hS;refine uN mH hS ?_;clear hS;intro b2 w hS;refine uO 3 ?_;intro a hA;refine bh [6] hS (by kernel_rfl) ?_;replace hS:=hS.drew;refine P1 0 [] hA rfl (fun w=>(aa (hA.ev rfl) bY)) ?_;clear hA a;refine cT 1 [] rfl (by exact⟨[],hS⟩) (fun w hT=>have hS:=hT.sat;(ld rfl lq)) ?_;refine bz 2 [] rfl (fun w=>(aa rfl bM)) ?_;refine cT 3 [] rfl (by exact⟨[],hS⟩) (fun w hT=>have hS:=hT.sat;(ad (cs:=[_,_]) rfl a6 aC (by exact (hS.p 1).ag (xs:=[_,_]) rfl))) ?_;intro a hA;refine aG 4 (by kernel_rfl) ?_;refine eF hA rfl rfl iZ rfl (cn _ r.p (hp.sat hS) hrc) ?_;clear hA a;rintro e w ⟨q,rfl,hq,hT⟩;replace hS:Sat _ _ (_::_::_):=hS.ai hT;clear hT;refine⟨_,rfl,?_⟩;intro a hA
 refine⟨.inr fun _=>(by exact⟨[_,_],hS⟩),?_⟩;refine P1 5 [] hA rfl (fun w=>(aP hA rfl kH)) ?_;clear hA a;intro a hA;refine aG 6 (by kernel_rfl) ?_;refine dq (vs:=[_,_,_]) (cs':=[_,_,_]) hA rfl rfl rfl bT (by simp[Value.oneCell']) (hS.p 2) rfl rfl ?_;clear hS;intro w hS;refine⟨.inl rfl,?_⟩;refine ak (by kernel_rfl) ?_ _;refine rE 2 hA ?_;clear hA a;intro a hA;refine gX hA rfl (dg (cs:=[_,_,_]) hA rfl gI bT (by exact hS.ag (xs:=[_,_,_]) rfl)) ?_;exact⟨q,rfl,hq,oO ((hS.p 2).p 2)⟩
theorem zb (W:World)(A:Option Addr)(c:Nat)(rs:List RL)(p:PL)(hR:fO W A c rs)(hE:∀r∈rs,r.p.ok W)(hB:dx 10000000000 rs)(hl:rs.length≤1000000000000)(hp:p.ok W)(hpv:p.d.vec.length≤1000000000000)(hpc:p.d.ab.length≤10000000000)(hF:cz (rs.map RL.d)=true)(hN:bL p.d=true):Calls Tryz.prog 347 #[.slice A (rs).length c,.agg #[.slice p.va p.d.vec.length p.vc,.slice p.ca p.d.ab.length p.cc]] W fun e w'=>∃q:jq,e=.returned (.tuple #[.slice q.a q.rs.length q.c,.int .i64 0])∧q.d=(rs.map RL.d).filter (fun r=>!ck r.bF p.d)∧Sat W w' [q.ch 206 3 219]:=by
 refine enter Tryz.func347 rfl rfl rfl (.cons (i:=0) rfl (.cons (i:=1) rfl .nil)) ?_;have hS:=Sat.start W;refine uC 2 ?_;refine uB rfl hS ?_;clear hS;intro b3 w hS;refine uO 8 ?_;refine uF tA rfl (fC _ A c rs (hR.sat hS) (fun r h=>(hE r h).sat hS) hB hl) ?_;rintro e w ⟨rfl,hT⟩;rw[if_pos hF];replace hS:Sat _ _ _:=hS.ai hT;clear hT;refine⟨_,rfl,?_⟩;refine u1 1 (dP (aK rfl rfl) (by omega)) ?_;refine u1 0 (ad (cs:=[_,_]) rfl a6 aC (by exact hS.ag (xs:=[_,_]) rfl)) ?_;intro a hA;refine dQ hA (ao hA rfl rfl rfl) rfl uU rfl (fE _ p (hp.sat hS) hpc hpv) ?_;clear hA a;rintro e w ⟨rfl,hT⟩;rw[hN];replace hS:Sat _ _ _:=hS.ai hT;clear hT;refine⟨_,rfl,?_⟩;refine u1 15 (aM rfl) ?_;refine u1 4 (ar rfl db) ?_;intro a hA
 refine wp_loop_ghost (fun (mm:Nat) a w=>∃(i:Nat) (out:List RL) (Ao:Option Addr) (co:Nat),Ag a 35 [(3,.pointer (some ⟨b3,0,none⟩)),(6,.slice Ao (out).length co),(17,.slice A (rs).length c),(18,.int .i64 ((rs.length:Nat):Int)),(19,.int .i64 ((i:Nat):Int))]∧Sat W w ([ss 206 Ao co out,gm 3 219 out,a8 b3 (.cells #[.slice p.va p.d.vec.length p.vc,.slice p.ca p.d.ab.length p.cc] 63)])∧(i≤rs.length)∧(out.map RL.d=((rs.map RL.d).take i).filter (fun r=>!ck r.bF p.d))∧(out.length≤i)∧mm=rs.length-i) rs.length ?_ ?_
 ·replace hA:=hA.kp [3,6,17,18,19] rfl;exact⟨0,[],none,0,hA,(hS.kZ.aY 206 3),(by omega),(by rfl),(by simp),by omega⟩
 intro m a w hI;clear hS hA;obtain⟨i,out,Ao,co,hA,hS,hi,ho,hol,rfl⟩:=hI;refine rC 2 hA ?_;clear hA a;refine aR 0 0 (aw rfl rfl) ?_ ?_
 ·intro h20;refine uO 10 ?_;obtain⟨A_p,rfl⟩:∃q,A=some q:=(hR.sat hS).av (by omega);obtain⟨x,hx⟩:∃zz_,rs[i]?=some zz_:=⟨_,List.getElem?_eq_getElem (by omega)⟩;have hxo:=hE x (List.mem_of_getElem? hx);obtain⟨hxv,hxc⟩:=hB.get hx;refine u1 0 (aj rfl rfl db bT (by omega) (by omega)) ?_;refine u1 0 (ad (cs:=iX x) rfl gI bT (fun j u e=>bJ (hR.sat hS) (cR hx j u e))) ?_;refine uN mH hS ?_;clear hS;intro b8 w hS;refine uW (vs:=[_,_,_]) (cs':=[_,_,_]) rfl rfl bT hS ?_;clear hS;intro w hS;refine uO 4 ?_;refine u1 0 (aa rfl bM) ?_;refine u1 0 (ad (cs:=[_,_]) rfl a6 aC (by exact hS.ag (xs:=[_,_]) rfl)) ?_;refine u1 0 (ad (cs:=[_,_]) rfl a6 aC (by exact (hS.p 3).ag (xs:=[_,_]) rfl)) ?_;refine uF GF rfl (o2 _ x.p p (hxo.sat hS) (hp.sat hS) hxc hpc) ?_
  rintro e w ⟨rfl,hT⟩;replace hS:Sat _ _ _:=hS.ai hT;clear hT;generalize h26:(ck x.p.d p.d)=bb;cases bb
  ·refine⟨_,rfl,?_⟩;refine u1 5 (aM rfl) ?_;refine u1 0 (ad (cs:=[_,_,_]) rfl gI bT (by exact hS.ag (xs:=[_,_,_]) rfl)) ?_;refine uF Gg rfl (qc _ x (hxo.sat hS) hxc) ?_;rintro e w ⟨q,rfl,hq,hT⟩;replace hS:Sat _ _ (_::_::_):=hS.ai hT;clear hT;refine⟨_,rfl,?_⟩;intro a hA;refine ji (vss:=[[_,_,_]]) hA rfl rfl db nB rfl rfl rfl (by simp) rfl hS ?_;clear hA a hS;intro A31 w hS;intro a hA;refine dy hA rfl rfl rfl db nB rfl (hS.p 4) (hS.rd.src db (by simp[Value.oneCell'])) (by omega) (by omega) ?_;clear hA a hS;intro A32 c32 w hc32 hS;refine uO 5 ?_;refine u1 2 (ah rfl rfl (by omega) (by omega)) ?_;intro a hA;replace hA:=hA.kp [3,6,17,18,19] rfl;have ef:=iG (p:=fun r=>!ck r.bF p.d) (bR hx);rw[if_pos (by rw[show ck x.d.bF p.d=false from h26];rfl)]at ef
   have hxn:hJ x.p.d=x.p.d:=Dc (gj hF x.d (List.mem_of_getElem? (bR hx)));have el:out.length+1=(out++[(⟨x.cy,q⟩:RL)]).length:=by simp
   have hS2:=iH hS el (cs':=(out++[(⟨x.cy,q⟩:RL)]).flatMap iX) (by rw[List.flatMap_append];rfl);have hS3:=kJ x.cy q (((hS2.p 5).p 4).p 4);rw[el]at hA;refine⟨rs.length-(i+1),by omega,i+1,out++[(⟨x.cy,q⟩:RL)],A32,c32,hA,rb (((hS3.p 4).p 1).p 2),by omega,?_,by simp;omega,rfl⟩;rw[List.map_append,ho,ef]
   congr 1
   show [(⟨x.cy,q.d⟩:bW)]=[⟨x.cy,x.p.d⟩];rw[hq,hxn]
  ·refine⟨_,rfl,?_⟩;refine u1 7 (aM rfl) ?_;refine u1 2 (ah rfl rfl (by omega) (by omega)) ?_;intro a hA;replace hA:=hA.kp [3,6,17,18,19] rfl;have ef:=iG (p:=fun r=>!ck r.bF p.d) (bR hx);rw[if_neg (by rw[show ck x.d.bF p.d=true from h26];simp),List.append_nil]at ef;exact⟨rs.length-(i+1),by omega,i+1,out,Ao,co,hA,hS.drop,by omega,by rw[ef];exact ho,by omega,rfl⟩
 ·intro h20;refine uO 9 ?_;intro a hA;replace hA:=hA.kp [6] rfl;refine rC 8 hA ?_;clear hA a;refine fy ?_;obtain rfl:i=rs.length:=by omega
  rw[List.take_of_length_le (by simp)]at ho;exact⟨⟨Ao,co,out⟩,rfl,ho,fz (qL hS)⟩
end Go.Proofs.YtkjabaihpkbfhaaGreat.Wk
namespace Go.Proofs.YtkjabaihpkbfhaaGreat.Wk
open Go Go.RowKit Go.Proofs.YtkjabaihpkbfhaaGreat Go.Proofs.YtkjabaihpkbfhaaGreat.K
theorem y8 {α:Type}{rs:List α}{i j:Nat}{y:α}(hy:rs[j]?=some y)(h:i≤j):(rs.drop i).take (j+1-i)=(rs.drop i).take (j-i)++[y]:=by
 have h1:(rs.drop i)[j-i]?=some y:=by rw[List.getElem?_drop,show i+(j-i)=j from by omega];exact hy
 rw[show j+1-i=(j-i)+1 from by omega,aD h1]
theorem Gi {W w:World}{L:List As}{ei es:Nat}{out:List RL}{al:PL}(h:al.d=⟨[],[]⟩∨∃x∈out,x.p=al)(s:Sat W w (gm ei es out::L)):al.ok w:=by
 rcases h with h | ⟨x,hx,rfl⟩
 ·
  obtain⟨va,vc,ca,cc,d⟩:=al;simp only at h;subst h;exact⟨⟨va,vc,rfl,Nat.zero_le _,rfl,.inl rfl⟩,⟨ca,cc,rfl,Nat.zero_le _,rfl,.inl rfl⟩⟩
 ·
  exact uY s x hx
theorem EP {W w:World}{L:List As}{ei es i:Nat}{rs:List RL}{x:RL}(s:ByteArray)(q:PL)(hx:rs[i]?=some x)(h:Sat W w (cI ei q.va q.vc q.d.vec::bK es q.ca q.cc q.d.ab::gm ei es rs::L)):Sat W w (gm ei es (rs.set i ⟨s,q⟩)::L):=by
 have h1:Sat W w (q.ch ei es::gm ei es rs::L):=PL.EE h;have hm:(rs.map fun x=>x.p.ch ei es)[i]?=some (x.p.ch ei es):=by rw[List.getElem?_map,hx];rfl
 have h2:=(h1.p 1).dN hm;have h3:=((h2.p 1).p 2).uZ (by rw[List.length_map];exact (List.getElem?_eq_some_iff.1 hx).1);unfold gm;rw[List.map_set];exact (h3.p 1).drop
theorem sr (a b:List aL):cN (a++b)=cN a+cN b:=by unfold cN;rw[List.map_append,List.sum_append]
theorem zh (ps:List aL)(i k:Nat):cN ((ps.drop i).take k)≤cN ps:=by
 have h1:cN ps=cN (ps.take i)+cN (ps.drop i):=by rw[←sr,List.take_append_drop]
 have h2:cN (ps.drop i)=cN ((ps.drop i).take k)+cN ((ps.drop i).drop k):=by rw[←sr,List.take_append_drop]
 omega
theorem ql (ps:List aL):ps.length≤cN ps:=by
 induction ps with
 | nil=>simp
 | cons p ps ih=>unfold cN at *;rw[List.map_cons,List.sum_cons,List.length_cons];omega
theorem zi (ps:List aL):(iB ps).ab.length≤16 * cN ps:=by
 refine qR (fun r _=>?_) 16 (Nat.le_refl _);refine Nat.le_trans (cD _) ?_;have:=ku ps r;unfold gl at this;exact this
theorem yr (ps:List aL):y9 (iB ps):=uz fun r=>et _
theorem uy (a b:aL):y9 (j4 a b):=uz fun r=>kF (bx a r) (bx b r)
theorem yf {α:Type}:∀ {l:List α} {i:Nat} {v:α},l[i]?=some v→l.set i v=l
 | [],i,v,h=>by simp at h
 | a::l,0,v,h=>by simp at h;subst h;rfl
 | a::l,i+1,v,h=>by rw[List.set_cons_succ,yf (by simpa using h)]
theorem FG {rs:List RL}{i:Nat}{x:RL}{q:PL}(hx:rs[i]?=some x)(hq:q.d=hJ x.p.d)(e:aV):bN ((rs.set i ⟨x.cy,q⟩).map RL.d) e=bN (rs.map RL.d) e:=by
 have hc:gZ (RL.d ⟨x.cy,q⟩) e=gZ x.d e:=by unfold gZ RL.d;dsimp only;rw[hq,Dj]
 unfold bN;rw[List.any_map,List.any_map]
 have hm:(rs.set i ⟨x.cy,q⟩).map ((fun r=>gZ r e) ∘ RL.d)=rs.map ((fun r=>gZ r e) ∘ RL.d):=by
  rw[List.map_set,show ((fun r=>gZ r e) ∘ RL.d) ⟨x.cy,q⟩=((fun r=>gZ r e) ∘ RL.d) x from hc];have h1:(rs.map ((fun r=>gZ r e) ∘ RL.d))[i]?=some (((fun r=>gZ r e) ∘ RL.d) x):=by rw[List.getElem?_map,hx];rfl
  exact yf h1
 have ha:∀l:List RL,l.any ((fun r=>gZ r e) ∘ RL.d)=(l.map ((fun r=>gZ r e) ∘ RL.d)).any id:=fun l=>by rw[List.any_map];rfl
 rw[ha,ha,hm]
end Go.Proofs.YtkjabaihpkbfhaaGreat.Wk
namespace Go.Proofs.YtkjabaihpkbfhaaGreat.Wk
open Go Go.RowKit Go.Proofs.YtkjabaihpkbfhaaGreat Go.Proofs.YtkjabaihpkbfhaaGreat.K Go.Proofs.YtkjabaihpkbfhaaGreat.T
theorem z6 (W:World)(A:Option Addr)(c:Nat)(rs:List RL)(hR:fO W A c rs)(hE:∀r∈rs,r.p.ok W)(hB:dx 10000000000 rs)(hl:rs.length≤1000000000000)(hs:cN (rs.map fun r=>r.p.d)≤16777216)(hF:cz (rs.map RL.d)=true):Calls Tryz.prog 358 #[.slice A (rs).length c] W fun e w'=>∃q:jq,e=.returned (.tuple #[.slice q.a q.rs.length q.c,.int .i64 0])∧(∀e2,bN q.d e2=bN (rs.map RL.d) e2)∧dx 10000000000 q.rs∧q.rs.length≤1000000000000∧Sat W w' [q.ch 206 3 219]:=by
 refine enter Tryz.func358 rfl rfl rfl (.cons (i:=0) rfl .nil) ?_;have hS:=Sat.start W;have hrl:=ql (rs.map fun r=>r.p.d);intro a hA;rw[List.length_map]at hrl;refine rC 10 hA ?_;clear hA a;refine uF tA rfl (fC _ A c rs (hR.sat hS) (fun r h=>(hE r h).sat hS) hB hl) ?_;rintro e w ⟨rfl,hT⟩;rw[if_pos hF];replace hS:Sat _ _ _:=hS.ai hT;clear hT;refine⟨_,rfl,?_⟩;refine u1 7 (dP (aK rfl rfl) (by omega)) ?_;refine uN dL hS ?_;clear hS;intro b4 w hS;refine uO 14 ?_;intro a hA
 refine wp_loop_ghost (fun (mm:Nat) a w=>∃(i:Nat) (out:List RL) (Ao:Option Addr) (co:Nat) (al:PL),Ag a 89 [(0,.slice A (rs).length c),(4,.pointer (some ⟨b4,0,none⟩)),(5,.slice Ao (out).length co),(6,.int .i64 ((i:Nat):Int))]∧Sat W w ([a8 b4 (.cells #[.slice al.va al.d.vec.length al.vc,.slice al.ca al.d.ab.length al.cc] 63),ss 206 Ao co out,gm 3 219 out])∧(i≤rs.length)∧(nN (rs.map RL.d) i (out.map RL.d) al.d)∧(out.length≤i)∧(∀x∈out,x.p.d.vec.length≤16∧x.p.d.ab.length≤9900000000∧(x.cy={ data:=#[] }→x.p.d.ab.length≤300000000))∧(al.d=⟨[],[]⟩∨∃x∈out,x.p=al)∧(al.d.ab.length≤300000000)∧mm=rs.length-i) rs.length ?_ ?_
 ·replace hA:=hA.kp [0,4,5,6] rfl;exact⟨0,[],none,0,⟨none,0,none,0,⟨[],[]⟩⟩,hA,((hS.kZ.aY 206 3).p 2),(by omega),(by exact z8 _),(by simp),(by intro x hx;cases hx),(by exact .inl rfl),(by simp),by omega⟩
 intro m a w hI;clear hS hA;obtain⟨i,out,Ao,co,al,hA,hS,hi,hF1,hol,hsm,hal,hac,rfl⟩:=hI;refine rC 5 hA ?_;clear hA a;refine u1 0 (ar rfl db) ?_;refine aR 0 0 (aw rfl rfl) ?_ ?_
 ·intro h16;obtain⟨x0,hx0⟩:∃x,rs[i]?=some x:=⟨_,List.getElem?_eq_getElem (by omega)⟩;obtain⟨A_p,rfl⟩:∃q,A=some q:=(hR.sat hS).av (by omega);refine uO 19 ?_;intro a hA;refine wp_loop_ghost (fun (mm:Nat) a w=>∃(j:Nat) (ps:List PL) (Ap:Option Addr) (cp:Nat),Ag a 89 [(0,.slice (some A_p) (rs).length c),(4,.pointer (some ⟨b4,0,none⟩)),(5,.slice Ao (out).length co),(6,.int .i64 ((i:Nat):Int)),(7,.int .i64 ((j:Nat):Int)),(8,.slice Ap (ps).length cp)]∧Sat W w ([row 63 2 (.slice Ap ps.length cp) ps.length (ps.flatMap ot),a8 b4 (.cells #[.slice al.va al.d.vec.length al.vc,.slice al.ca al.d.ab.length al.cc] 63),ss 206 Ao co out,gm 3 219 out])∧(i≤j)∧(j≤rs.length)∧(ps=((rs.drop i).take (j-i)).map RL.p)∧(∀x∈(((rs.drop i).take (j-i)).map RL.d),x.cy=x0.cy)∧mm=rs.length-j) (rs.length-i) ?_ ?_
  ·replace hA:=hA.kp [0,4,5,6,7,8] rfl;exact⟨i,[],none,0,hA,(hS.aY 63 2),(by omega),(by omega),(by simp),(by simp),by omega⟩
  intro m a w hI;clear hS hA;obtain⟨j,ps,Ap,cp,hA,hS,hij,hj,hps,hsk,rfl⟩:=hI;refine rC 2 hA ?_;clear hA a;intro a hA;refine cF (fun w'=>Sat _ w' _) (by kernel_rfl) (by kernel_rfl) hS.drew ?_;refine rQ 2 hA ?_;clear hA a;refine br 0 (fun w hS=>(ar rfl db)) ?_;intro a hA;refine K.se hA rfl rfl rfl (fun w hS=>(aw (hA.ev rfl) (hA.ev rfl))) ?_ ?_
  ·clear hA a;intro h21;refine uQ 3 ?_;obtain⟨y,hy⟩:∃zz_,rs[j]?=some zz_:=⟨_,List.getElem?_eq_getElem (by omega)⟩;refine br 0 (fun w hS=>(aj rfl rfl db bT (by omega) (by omega))) ?_;refine br 0 (fun w hS=>(aA rfl bY)) ?_;refine br 2 (fun w hS=>(aq rfl lq (bJ (hR.sat hS) (cR hy 0 _ rfl)))) ?_;refine br 0 (fun w hS=>(aj rfl rfl db bT (by omega) (by omega))) ?_;refine br 0 (fun w hS=>(aA rfl bY)) ?_;refine br 0 (fun w hS=>(aq rfl lq (bJ (hR.sat hS) (cR hx0 0 _ rfl)))) ?_;intro a hA;refine K.oY hA (ao hA rfl rfl rfl) rfl rfl (fun w hS=>(iK (hA.ev rfl) (hA.ev rfl))) ?_ ?_
   ·clear hA a;intro h33;refine uQ 1 ?_;intro a hA;refine wpQuiet_nil ?_;clear hS;intro w hS;refine rE 7 hA ?_;clear hA a;have hpl:ps.length≤rs.length:=(by rw[hps];simp;omega);refine uO 3 ?_;refine u1 0 (aj rfl rfl db bT (by omega) (by omega)) ?_;refine u1 0 (aA rfl bM) ?_;refine u1 0 (ad (cs:=[.slice y.p.va y.p.d.vec.length y.p.vc,.slice y.p.ca y.p.d.ab.length y.p.cc]) rfl a6 aC (fun j u e=>kV (hR.sat hS) (cR hy _ u (oh y j u e)))) ?_;intro a hA;refine ji (vss:=[[_,_]]) hA rfl rfl fK pM rfl rfl rfl (by simp) rfl hS ?_;clear hA a hS;intro A41 w hS;intro a hA;refine dy hA rfl rfl rfl fK pM rfl (hS.p 1) (hS.rd.src fK (by simp[Value.oneCell'])) (by omega) (by omega) ?_;clear hA a hS;intro A42 c42 w hc42 hS;refine uO 5 ?_;refine u1 3 (ah rfl rfl (by omega) (by omega)) ?_;intro a hA
    replace hA:=hA.kp [0,4,5,6,7,8] rfl;have ep:ps++[y.p]=((rs.drop i).take (j+1-i)).map RL.p:=by rw[y8 hy hij,List.map_append,←hps];rfl
    have el:ps.length+1=(ps++[y.p]).length:=by simp
    have hS2:=iH hS el (cs':=(ps++[y.p]).flatMap ot) (by rw[List.flatMap_append];rfl);rw[el]at hA;refine⟨rs.length-(j+1),by omega,j+1,ps++[y.p],A42,c42,hA,Bg ((((hS2.p 4).p 4).p 4).p 3),by omega,by omega,ep,?_,rfl⟩;rw[y8 hy hij,List.map_append];intro z hz;rcases List.mem_append.1 hz with hz | hz
    ·exact hsk z hz
    ·simp at hz;subst hz;exact h33
   ·clear hA a;intro h33;have hjlt:i<j:=(by rcases Nat.lt_or_ge i j with h | h;exact h;obtain rfl:j=i:=(by omega);rw[hx0]at hy;cases hy;exact absurd rfl h33);have hEp:∀p∈ps,p.ok W:=fun p hp=>(by rw[hps]at hp;obtain⟨x,hx,rfl⟩:=List.mem_map.1 hp;exact hE x (List.mem_of_mem_drop (List.mem_of_mem_take hx)))
    have hsp:cN (ps.map PL.d)≤16777216:=(by rw[hps,List.map_map];refine Nat.le_trans ?_ hs;rw[List.map_take,List.map_drop];exact zh _ _ _);have hpl:ps.length≤rs.length:=(by rw[hps];simp;omega);refine uQ 1 ?_;intro a hA;refine wpQuiet_nil ?_;clear hS;intro w hS;refine rE 7 hA ?_;clear hA a;intro a hA;refine eD (fun a w=>∃(b9:Nat) (q:PL),Ag a 89 [(0,.slice (some A_p) (rs).length c),(4,.pointer (some ⟨b4,0,none⟩)),(5,.slice Ao (out).length co),(7,.int .i64 ((j:Nat):Int)),(9,.pointer (some ⟨b9,0,none⟩))]∧Sat W w ([a8 b9 (.cells #[.string x0.cy,.slice q.va q.d.vec.length q.vc,.slice q.ca q.d.ab.length q.cc] 206),cI 3 q.va q.vc q.d.vec,bK 219 q.ca q.cc q.d.ab,a8 b4 (.cells #[.slice al.va al.d.vec.length al.vc,.slice al.ca al.d.ab.length al.cc] 63),ss 206 Ao co out,gm 3 219 out])∧(q.d=(iB (ps.map PL.d)))) ?_ ?_
    ·refine bh [9] hS (by kernel_rfl) ?_;replace hS:=hS.drew;refine rX [0,1] hA ?_;clear hA a;refine bz 2 [] rfl (fun w=>(aj rfl rfl db bT (by omega) (by omega))) ?_;refine bz 3 [] rfl (fun w=>(aA rfl bY)) ?_;refine cT 4 [5] rfl (by exact⟨[],hS⟩) (fun w hT=>have hS:=hT.sat;(aq rfl lq (bJ (hR.sat hS) (cR hx0 0 _ rfl)))) ?_;intro a hA;refine mZ 6 8 (by kernel_rfl) ?_ ?_
     ·refine eF hA rfl rfl BM rfl (lH _ Ap cp ps (by exact hS.rd) (fun p hp=>(hEp p hp).sat hS) (by omega) (by omega)) ?_;clear hA a;rintro e w ⟨q,rfl,hq,hT⟩;replace hS:Sat _ _ (_::_::_):=hS.ai hT;clear hT;refine⟨_,rfl,?_⟩;intro a hA;refine⟨.inr fun _=>(by exact⟨[_,_],hS⟩),?_⟩;refine P1 7 [] hA rfl (fun w=>(aP hA rfl kH)) ?_;clear hA a;intro a hA;refine aG 8 (by kernel_rfl) ?_;refine eN hA rfl rfl mH hS ?_;clear hA a hS;intro b9 w hS;intro a hA;refine⟨.inr fun _=>(by exact⟨[_,_,_],hS⟩),?_⟩;refine aG 9 (by kernel_rfl) ?_;refine dq (vs:=[_,_,_]) (cs':=[_,_,_]) hA rfl rfl rfl bT (by simp[Value.oneCell']) hS rfl rfl ?_;clear hS;intro w hS;refine⟨.inl rfl,?_⟩;refine ak (by kernel_rfl) ?_ _;replace hA:=hA.kp [0,4,5,7,9] rfl
      first
       | exact⟨b9,q,hA,((((((hS.p 6).p 6).p 6).p 5).p 5).p 5).cZ [_,_,_,_,_,_],(by exact hq)⟩
     ·refine eN hA rfl rfl mH hS ?_;clear hA a hS;intro b9 w hS;intro a hA;refine⟨.inr fun _=>(by exact⟨[_],hS⟩),?_⟩;refine aG 6 (by kernel_rfl) ?_;refine eF hA rfl rfl BM rfl (lH _ Ap cp ps (by exact (hS.p 1).rd) (fun p hp=>(hEp p hp).sat hS) (by omega) (by omega)) ?_;clear hA a;rintro e w ⟨q,rfl,hq,hT⟩;replace hS:Sat _ _ (_::_::_):=hS.ai hT;clear hT;refine⟨_,rfl,?_⟩;intro a hA;refine⟨.inr fun _=>(by exact⟨[_,_,_],hS⟩),?_⟩;refine P1 7 [] hA rfl (fun w=>(aP hA rfl kH)) ?_;clear hA a;intro a hA;refine aG 9 (by kernel_rfl) ?_;refine dq (vs:=[_,_,_]) (cs':=[_,_,_]) hA rfl rfl rfl bT (by simp[Value.oneCell']) (hS.p 2) rfl rfl ?_;clear hS;intro w hS;refine⟨.inl rfl,?_⟩;refine ak (by kernel_rfl) ?_ _;replace hA:=hA.kp [0,4,5,7,9] rfl
      first
       | exact⟨b9,q,hA,((((((hS.p 6).p 6).p 6).p 5).p 5).p 5).cZ [_,_,_,_,_,_],(by exact hq)⟩
    ·intro a w hI;clear hS hA;obtain⟨b9,q,hA,hS,hq⟩:=hI;have hgp:ps.map PL.d=(((rs.drop i).take (j-i)).map RL.d).map bW.bF:=by rw[hps];simp[List.map_map,Function.comp_def,RL.d]
     have hqc:=yr (ps.map PL.d);rw[←hq]at hqc;have hqv:=hqc.len;have hql:=zi (ps.map PL.d);rw[←hq]at hql;have hgl:(((rs.drop i).take (j-i)).map RL.d)=((rs.map RL.d).drop i).take (j-i):=by rw[List.map_take,List.map_drop]
     rw[hgp,hgl]at hq;rw[hgl]at hsk;refine rC 3 hA ?_;clear hA a;refine u1 0 (aa rfl bY) ?_;refine u1 0 (ld rfl lq) ?_;refine aR 0 0 (iK rfl rfl) ?_ ?_
     ·intro h55;refine uO 4 ?_;refine u1 0 (aa rfl bM) ?_;refine u1 0 (ad (cs:=[_,_]) rfl a6 aC (by exact hS.ag (xs:=[_,_]) rfl)) ?_;refine uW (vs:=[_,_]) (cs':=[_,_]) rfl rfl aC (hS.p 3) ?_;clear hS;intro w hS;refine uO 5 ?_;refine u1 0 (aa rfl bM) ?_;refine u1 0 (ad (cs:=[_,_]) rfl a6 aC (by exact (hS.p 1).ag (xs:=[_,_]) rfl)) ?_;refine uF wD rfl (gB _ q ⟨(hS.p 2).rd,(hS.p 3).rd⟩ (by omega)) ?_;rintro e w ⟨rfl,hT⟩;replace hS:Sat _ _ _:=hS.ai hT;clear hT;generalize h65:(eE q.d)=bb;cases bb
      ·refine⟨_,rfl,?_⟩;refine u1 5 (aM rfl) ?_;refine u1 0 (ad (cs:=[_,_,_]) rfl gI bT (by exact (hS.p 1).ag (xs:=[_,_,_]) rfl)) ?_;intro a hA;refine ji (vss:=[[_,_,_]]) hA rfl rfl db nB rfl rfl rfl (by simp) rfl hS ?_;clear hA a hS;intro A69 w hS;intro a hA;refine dy hA rfl rfl rfl db nB rfl (hS.p 5) (hS.rd.src db (by simp[Value.oneCell'])) (by omega) (by omega) ?_;clear hA a hS;intro A70 c70 w hc70 hS;refine uO 8 ?_;intro a hA;replace hA:=hA.kp [0,4,5,6] rfl;have hsk0:∀x∈((rs.map RL.d).drop i).take (j-i),x.cy={ data:=#[] }:=fun x hx=>(hsk x hx).trans h55
       have el:out.length+1=(out++[(⟨x0.cy,q⟩:RL)]).length:=by simp
       have hS2:=iH hS el (cs':=(out++[(⟨x0.cy,q⟩:RL)]).flatMap iX) (by rw[List.flatMap_append];rfl);have hS3:=kJ x0.cy q ((((hS2.p 2).p 6).p 6).p 6);rw[el]at hA;have hF2:=zo hF1 hij hsk0 (by rw[←hq];exact h65);rw[←hq,←h55]at hF2;refine⟨rs.length-j,by omega,j,out++[(⟨x0.cy,q⟩:RL)],A70,c70,q,hA,rb ((hS3.p 2).p 2),hj,?_,by simp;omega,fun x hx=>(by rcases List.mem_append.1 hx with hx | hx;exact hsm x hx;simp at hx;subst hx;exact⟨by dsimp only;omega,by dsimp only;omega,fun _=>(by dsimp only;omega)⟩),?_,by omega,rfl⟩
       ·rw[List.map_append];exact hF2
       ·exact .inr ⟨_,List.mem_append_right _ (List.mem_singleton.2 rfl),rfl⟩
      ·refine⟨_,rfl,?_⟩;refine u1 10 (aM rfl) ?_;intro a hA;replace hA:=hA.kp [0,4,5,6] rfl;have hsk0:∀x∈((rs.map RL.d).drop i).take (j-i),x.cy={ data:=#[] }:=fun x hx=>(hsk x hx).trans h55
       rw[hq]at h65;have hqe:q.d=⟨[],[]⟩:=by rw[hq];exact tH h65
       have hF2:=wc hF1 hij hsk0 h65;rw[←hq]at hF2;exact⟨rs.length-j,by omega,j,out,Ao,co,q,hA,rb (((hS.p 5).p 5).p 2),hj,hF2,by omega,hsm,.inl hqe,by rw[hqe];simp,rfl⟩
     ·intro h55;refine uO 4 ?_;refine u1 0 (aa rfl bM) ?_;refine u1 0 (ad (cs:=[_,_]) rfl a6 aC (by exact hS.ag (xs:=[_,_]) rfl)) ?_;refine u1 0 (ad (cs:=[_,_]) rfl a6 aC (by exact (hS.p 3).ag (xs:=[_,_]) rfl)) ?_;refine uF G8 rfl (qG _ q al ⟨(hS.p 1).rd,(hS.p 2).rd⟩ (Gi hal (hS.p 5)) (by omega) (by omega)) ?_;rintro e w ⟨z,rfl,hz,hT⟩;replace hS:Sat _ _ (_::_::_):=hS.ai hT;clear hT;have hzv:=(uy q.d al.d).len;rw[←hz]at hzv;have hzl:=rK q.d al.d;rw[←hz]at hzl;refine⟨_,rfl,?_⟩;refine u1 0 (aa rfl bM) ?_;refine uW (vs:=[_,_]) (cs':=[_,_,_]) rfl rfl aC (hS.p 2) ?_;clear hS;intro w hS;refine uO 5 ?_;refine u1 0 (aa rfl bM) ?_;refine u1 0 (ad (cs:=[_,_]) rfl a6 aC (by exact hS.ag (xs:=[_,_]) rfl)) ?_
      refine uF wD rfl (gB _ z ⟨(hS.p 1).rd,(hS.p 2).rd⟩ (by omega)) ?_;rintro e w ⟨rfl,hT⟩;replace hS:Sat _ _ _:=hS.ai hT;clear hT;generalize h65:(eE z.d)=bb;cases bb
      ·refine⟨_,rfl,?_⟩;refine u1 5 (aM rfl) ?_;refine u1 0 (ad (cs:=[_,_,_]) rfl gI bT (by exact hS.ag (xs:=[_,_,_]) rfl)) ?_;intro a hA;refine ji (vss:=[[_,_,_]]) hA rfl rfl db nB rfl rfl rfl (by simp) rfl hS ?_;clear hA a hS;intro A69 w hS;intro a hA;refine dy hA rfl rfl rfl db nB rfl (hS.p 7) (hS.rd.src db (by simp[Value.oneCell'])) (by omega) (by omega) ?_;clear hA a hS;intro A70 c70 w hc70 hS;refine uO 8 ?_;intro a hA;replace hA:=hA.kp [0,4,5,6] rfl;have el:out.length+1=(out++[(⟨x0.cy,z⟩:RL)]).length:=by simp
       have hS2:=iH hS el (cs':=(out++[(⟨x0.cy,z⟩:RL)]).flatMap iX) (by rw[List.flatMap_append];rfl);have hS3:=kJ x0.cy z ((((hS2.p 7).p 8).p 6).p 6);rw[el]at hA;have hF2:=zf (s:=x0.cy) hF1 hij h55 hsk;rw[←hq,←hz]at hF2;refine⟨rs.length-j,by omega,j,out++[(⟨x0.cy,z⟩:RL)],A70,c70,al,hA,rb ((hS3.p 2).p 2),hj,?_,by simp;omega,fun x hx=>(by rcases List.mem_append.1 hx with hx | hx;exact hsm x hx;simp at hx;subst hx;exact⟨by dsimp only;omega,by dsimp only;omega,fun h=>absurd h h55⟩),?_,by omega,rfl⟩
       ·rw[List.map_append];exact hF2
       ·rcases hal with h | ⟨x,hx,h⟩
        ·exact .inl h
        ·exact .inr ⟨x,List.mem_append_left _ hx,h⟩
      ·refine⟨_,rfl,?_⟩;refine u1 10 (aM rfl) ?_;intro a hA;replace hA:=hA.kp [0,4,5,6] rfl;rw[hz,hq]at h65;have hF2:=wH hF1 hij hsk h65 h55;exact⟨rs.length-j,by omega,j,out,Ao,co,al,hA,rb (((hS.p 7).p 7).p 7),hj,hF2,by omega,hsm,hal,hac,rfl⟩
  ·clear hA a;intro h21;have hjlt:i<j:=(by omega);have hEp:∀p∈ps,p.ok W:=fun p hp=>(by rw[hps]at hp;obtain⟨x,hx,rfl⟩:=List.mem_map.1 hp;exact hE x (List.mem_of_mem_drop (List.mem_of_mem_take hx)))
   have hsp:cN (ps.map PL.d)≤16777216:=(by rw[hps,List.map_map];refine Nat.le_trans ?_ hs;rw[List.map_take,List.map_drop];exact zh _ _ _);have hpl:ps.length≤rs.length:=(by rw[hps];simp;omega);refine uQ 13 ?_;intro a hA;refine wpQuiet_nil ?_;clear hS;intro w hS;refine rE 7 hA ?_;clear hA a;intro a hA;refine eD (fun a w=>∃(b9:Nat) (q:PL),Ag a 89 [(0,.slice (some A_p) (rs).length c),(4,.pointer (some ⟨b4,0,none⟩)),(5,.slice Ao (out).length co),(7,.int .i64 ((j:Nat):Int)),(9,.pointer (some ⟨b9,0,none⟩))]∧Sat W w ([a8 b9 (.cells #[.string x0.cy,.slice q.va q.d.vec.length q.vc,.slice q.ca q.d.ab.length q.cc] 206),cI 3 q.va q.vc q.d.vec,bK 219 q.ca q.cc q.d.ab,a8 b4 (.cells #[.slice al.va al.d.vec.length al.vc,.slice al.ca al.d.ab.length al.cc] 63),ss 206 Ao co out,gm 3 219 out])∧(q.d=(iB (ps.map PL.d)))) ?_ ?_
   ·refine bh [9] hS (by kernel_rfl) ?_;replace hS:=hS.drew;refine rX [0,1] hA ?_;clear hA a;refine bz 2 [] rfl (fun w=>(aj rfl rfl db bT (by omega) (by omega))) ?_;refine bz 3 [] rfl (fun w=>(aA rfl bY)) ?_;refine cT 4 [5] rfl (by exact⟨[],hS⟩) (fun w hT=>have hS:=hT.sat;(aq rfl lq (bJ (hR.sat hS) (cR hx0 0 _ rfl)))) ?_;intro a hA;refine mZ 6 8 (by kernel_rfl) ?_ ?_
    ·refine eF hA rfl rfl BM rfl (lH _ Ap cp ps (by exact hS.rd) (fun p hp=>(hEp p hp).sat hS) (by omega) (by omega)) ?_;clear hA a;rintro e w ⟨q,rfl,hq,hT⟩;replace hS:Sat _ _ (_::_::_):=hS.ai hT;clear hT;refine⟨_,rfl,?_⟩;intro a hA;refine⟨.inr fun _=>(by exact⟨[_,_],hS⟩),?_⟩;refine P1 7 [] hA rfl (fun w=>(aP hA rfl kH)) ?_;clear hA a;intro a hA;refine aG 8 (by kernel_rfl) ?_;refine eN hA rfl rfl mH hS ?_;clear hA a hS;intro b9 w hS;intro a hA;refine⟨.inr fun _=>(by exact⟨[_,_,_],hS⟩),?_⟩;refine aG 9 (by kernel_rfl) ?_;refine dq (vs:=[_,_,_]) (cs':=[_,_,_]) hA rfl rfl rfl bT (by simp[Value.oneCell']) hS rfl rfl ?_;clear hS;intro w hS;refine⟨.inl rfl,?_⟩;refine ak (by kernel_rfl) ?_ _;replace hA:=hA.kp [0,4,5,7,9] rfl
     first
      | exact⟨b9,q,hA,((((((hS.p 6).p 6).p 6).p 5).p 5).p 5).cZ [_,_,_,_,_,_],(by exact hq)⟩
    ·refine eN hA rfl rfl mH hS ?_;clear hA a hS;intro b9 w hS;intro a hA;refine⟨.inr fun _=>(by exact⟨[_],hS⟩),?_⟩;refine aG 6 (by kernel_rfl) ?_;refine eF hA rfl rfl BM rfl (lH _ Ap cp ps (by exact (hS.p 1).rd) (fun p hp=>(hEp p hp).sat hS) (by omega) (by omega)) ?_;clear hA a;rintro e w ⟨q,rfl,hq,hT⟩;replace hS:Sat _ _ (_::_::_):=hS.ai hT;clear hT;refine⟨_,rfl,?_⟩;intro a hA;refine⟨.inr fun _=>(by exact⟨[_,_,_],hS⟩),?_⟩;refine P1 7 [] hA rfl (fun w=>(aP hA rfl kH)) ?_;clear hA a;intro a hA;refine aG 9 (by kernel_rfl) ?_;refine dq (vs:=[_,_,_]) (cs':=[_,_,_]) hA rfl rfl rfl bT (by simp[Value.oneCell']) (hS.p 2) rfl rfl ?_;clear hS;intro w hS;refine⟨.inl rfl,?_⟩;refine ak (by kernel_rfl) ?_ _;replace hA:=hA.kp [0,4,5,7,9] rfl
     first
      | exact⟨b9,q,hA,((((((hS.p 6).p 6).p 6).p 5).p 5).p 5).cZ [_,_,_,_,_,_],(by exact hq)⟩
   ·intro a w hI;clear hS hA;obtain⟨b9,q,hA,hS,hq⟩:=hI;have hgp:ps.map PL.d=(((rs.drop i).take (j-i)).map RL.d).map bW.bF:=by rw[hps];simp[List.map_map,Function.comp_def,RL.d]
    have hqc:=yr (ps.map PL.d);rw[←hq]at hqc;have hqv:=hqc.len;have hql:=zi (ps.map PL.d);rw[←hq]at hql;have hgl:(((rs.drop i).take (j-i)).map RL.d)=((rs.map RL.d).drop i).take (j-i):=by rw[List.map_take,List.map_drop]
    rw[hgp,hgl]at hq;rw[hgl]at hsk;refine rC 3 hA ?_;clear hA a;refine u1 0 (aa rfl bY) ?_;refine u1 0 (ld rfl lq) ?_;refine aR 0 0 (iK rfl rfl) ?_ ?_
    ·intro h55;refine uO 4 ?_;refine u1 0 (aa rfl bM) ?_;refine u1 0 (ad (cs:=[_,_]) rfl a6 aC (by exact hS.ag (xs:=[_,_]) rfl)) ?_;refine uW (vs:=[_,_]) (cs':=[_,_]) rfl rfl aC (hS.p 3) ?_;clear hS;intro w hS;refine uO 5 ?_;refine u1 0 (aa rfl bM) ?_;refine u1 0 (ad (cs:=[_,_]) rfl a6 aC (by exact (hS.p 1).ag (xs:=[_,_]) rfl)) ?_;refine uF wD rfl (gB _ q ⟨(hS.p 2).rd,(hS.p 3).rd⟩ (by omega)) ?_;rintro e w ⟨rfl,hT⟩;replace hS:Sat _ _ _:=hS.ai hT;clear hT;generalize h65:(eE q.d)=bb;cases bb
     ·refine⟨_,rfl,?_⟩;refine u1 5 (aM rfl) ?_;refine u1 0 (ad (cs:=[_,_,_]) rfl gI bT (by exact (hS.p 1).ag (xs:=[_,_,_]) rfl)) ?_;intro a hA;refine ji (vss:=[[_,_,_]]) hA rfl rfl db nB rfl rfl rfl (by simp) rfl hS ?_;clear hA a hS;intro A69 w hS;intro a hA;refine dy hA rfl rfl rfl db nB rfl (hS.p 5) (hS.rd.src db (by simp[Value.oneCell'])) (by omega) (by omega) ?_;clear hA a hS;intro A70 c70 w hc70 hS;refine uO 8 ?_;intro a hA;replace hA:=hA.kp [0,4,5,6] rfl;have hsk0:∀x∈((rs.map RL.d).drop i).take (j-i),x.cy={ data:=#[] }:=fun x hx=>(hsk x hx).trans h55
      have el:out.length+1=(out++[(⟨x0.cy,q⟩:RL)]).length:=by simp
      have hS2:=iH hS el (cs':=(out++[(⟨x0.cy,q⟩:RL)]).flatMap iX) (by rw[List.flatMap_append];rfl);have hS3:=kJ x0.cy q ((((hS2.p 2).p 6).p 6).p 6);rw[el]at hA;have hF2:=zo hF1 hij hsk0 (by rw[←hq];exact h65);rw[←hq,←h55]at hF2;refine⟨rs.length-j,by omega,j,out++[(⟨x0.cy,q⟩:RL)],A70,c70,q,hA,rb ((hS3.p 2).p 2),hj,?_,by simp;omega,fun x hx=>(by rcases List.mem_append.1 hx with hx | hx;exact hsm x hx;simp at hx;subst hx;exact⟨by dsimp only;omega,by dsimp only;omega,fun _=>(by dsimp only;omega)⟩),?_,by omega,rfl⟩
      ·rw[List.map_append];exact hF2
      ·exact .inr ⟨_,List.mem_append_right _ (List.mem_singleton.2 rfl),rfl⟩
     ·refine⟨_,rfl,?_⟩;refine u1 10 (aM rfl) ?_;intro a hA;replace hA:=hA.kp [0,4,5,6] rfl;have hsk0:∀x∈((rs.map RL.d).drop i).take (j-i),x.cy={ data:=#[] }:=fun x hx=>(hsk x hx).trans h55
      rw[hq]at h65;have hqe:q.d=⟨[],[]⟩:=by rw[hq];exact tH h65
      have hF2:=wc hF1 hij hsk0 h65;rw[←hq]at hF2;exact⟨rs.length-j,by omega,j,out,Ao,co,q,hA,rb (((hS.p 5).p 5).p 2),hj,hF2,by omega,hsm,.inl hqe,by rw[hqe];simp,rfl⟩
    ·intro h55;refine uO 4 ?_;refine u1 0 (aa rfl bM) ?_;refine u1 0 (ad (cs:=[_,_]) rfl a6 aC (by exact hS.ag (xs:=[_,_]) rfl)) ?_;refine u1 0 (ad (cs:=[_,_]) rfl a6 aC (by exact (hS.p 3).ag (xs:=[_,_]) rfl)) ?_;refine uF G8 rfl (qG _ q al ⟨(hS.p 1).rd,(hS.p 2).rd⟩ (Gi hal (hS.p 5)) (by omega) (by omega)) ?_;rintro e w ⟨z,rfl,hz,hT⟩;replace hS:Sat _ _ (_::_::_):=hS.ai hT;clear hT;have hzv:=(uy q.d al.d).len;rw[←hz]at hzv;have hzl:=rK q.d al.d;rw[←hz]at hzl;refine⟨_,rfl,?_⟩;refine u1 0 (aa rfl bM) ?_;refine uW (vs:=[_,_]) (cs':=[_,_,_]) rfl rfl aC (hS.p 2) ?_;clear hS;intro w hS;refine uO 5 ?_;refine u1 0 (aa rfl bM) ?_;refine u1 0 (ad (cs:=[_,_]) rfl a6 aC (by exact hS.ag (xs:=[_,_]) rfl)) ?_
     refine uF wD rfl (gB _ z ⟨(hS.p 1).rd,(hS.p 2).rd⟩ (by omega)) ?_;rintro e w ⟨rfl,hT⟩;replace hS:Sat _ _ _:=hS.ai hT;clear hT;generalize h65:(eE z.d)=bb;cases bb
     ·refine⟨_,rfl,?_⟩;refine u1 5 (aM rfl) ?_;refine u1 0 (ad (cs:=[_,_,_]) rfl gI bT (by exact hS.ag (xs:=[_,_,_]) rfl)) ?_;intro a hA;refine ji (vss:=[[_,_,_]]) hA rfl rfl db nB rfl rfl rfl (by simp) rfl hS ?_;clear hA a hS;intro A69 w hS;intro a hA;refine dy hA rfl rfl rfl db nB rfl (hS.p 7) (hS.rd.src db (by simp[Value.oneCell'])) (by omega) (by omega) ?_;clear hA a hS;intro A70 c70 w hc70 hS;refine uO 8 ?_;intro a hA;replace hA:=hA.kp [0,4,5,6] rfl;have el:out.length+1=(out++[(⟨x0.cy,z⟩:RL)]).length:=by simp
      have hS2:=iH hS el (cs':=(out++[(⟨x0.cy,z⟩:RL)]).flatMap iX) (by rw[List.flatMap_append];rfl);have hS3:=kJ x0.cy z ((((hS2.p 7).p 8).p 6).p 6);rw[el]at hA;have hF2:=zf (s:=x0.cy) hF1 hij h55 hsk;rw[←hq,←hz]at hF2;refine⟨rs.length-j,by omega,j,out++[(⟨x0.cy,z⟩:RL)],A70,c70,al,hA,rb ((hS3.p 2).p 2),hj,?_,by simp;omega,fun x hx=>(by rcases List.mem_append.1 hx with hx | hx;exact hsm x hx;simp at hx;subst hx;exact⟨by dsimp only;omega,by dsimp only;omega,fun h=>absurd h h55⟩),?_,by omega,rfl⟩
      ·rw[List.map_append];exact hF2
      ·rcases hal with h | ⟨x,hx,h⟩
       ·exact .inl h
       ·exact .inr ⟨x,List.mem_append_left _ hx,h⟩
     ·refine⟨_,rfl,?_⟩;refine u1 10 (aM rfl) ?_;intro a hA;replace hA:=hA.kp [0,4,5,6] rfl;rw[hz,hq]at h65;have hF2:=wH hF1 hij hsk h65 h55;exact⟨rs.length-j,by omega,j,out,Ao,co,al,hA,rb (((hS.p 7).p 7).p 7),hj,hF2,by omega,hsm,hal,hac,rfl⟩
 ·intro h16;obtain rfl:i=rs.length:=by omega
  intro a hA;rw[show rs.length=(rs.map RL.d).length from by simp]at hF1;have hcov:=hF1.Ix;rw[List.take_length]at hcov;refine rO 8 hA ?_;clear hA a;intro a hA;replace hA:=hA.kp [5] rfl;refine rC 4 hA ?_;clear hA a;refine u1 0 (ar rfl db) ?_;refine aR 0 0 (dv rfl rfl) ?_ ?_
  ·intro h74;refine uO 2 ?_;obtain⟨Ao_p,rfl⟩:∃q,Ao=some q:=(hS.p 1).rd.av (by omega);obtain⟨x1,hx1⟩:∃zz_,out[0]?=some zz_:=⟨_,List.getElem?_eq_getElem (by omega)⟩;refine u1 0 (aj rfl rfl db bT (by omega) (by omega)) ?_;refine u1 0 (aA rfl bY) ?_;refine u1 0 (aq rfl lq (bJ (hS.p 1).rd (cR hx1 0 _ rfl))) ?_;refine aR 0 0 (iK rfl rfl) ?_ ?_
   ·intro h80;refine uO 7 ?_;refine u1 0 (aj rfl rfl db bT (by omega) (by omega)) ?_;refine u1 0 (ad (cs:=iX x1) rfl gI bT (fun j u e=>bJ (hS.p 1).rd (cR hx1 j u e))) ?_;refine uF Gg rfl (qc _ x1 (uY (hS.p 2) x1 (List.mem_of_getElem? hx1)) (by have:=hsm x1 (List.mem_of_getElem? hx1);omega)) ?_;rintro e w ⟨q,rfl,hq,hT⟩;replace hS:Sat _ _ (_::_::_):=hS.ai hT;clear hT;refine⟨_,rfl,?_⟩;refine u1 0 (aj rfl rfl db bT (by omega) (by omega)) ?_;intro a hA;refine GN (0 * 3) (vs:=[_,_,_]) hA rfl rfl rfl bT (by simp[Value.oneCell']) (hS.p 3) (by rw[oq tW];simp;omega) ?_;clear hS;intro w hS;refine rO 10 hA ?_;clear hA a;refine fy ?_;have hx1m:=List.mem_of_getElem? hx1;obtain⟨hx1s,_,hx1t⟩:=hsm x1 hx1m;have hx1u:=hx1t h80;have hS2:=iH hS rfl (um tW (xs:=out) (i:=0) (⟨x1.cy,q⟩:RL) (by omega))
    have hS3:=EP x1.cy q hx1 (((hS2.p 4).p 3).p 3);have hql:=jA x1.p.d;rw[←hq]at hql;have hqv:=(iL x1.p.d).len;rw[←hq]at hqv;refine⟨⟨some Ao_p,co,out.set 0 ⟨x1.cy,q⟩⟩,by simp,fun e2=>?_,?_,?_,fz (qL (iH (hS3.p 1) (by simp) rfl))⟩
    ·show bN ((out.set 0 ⟨x1.cy,q⟩).map RL.d) e2=_;rw[FG hx1 hq];exact hcov e2
    ·intro x hx;rcases List.mem_or_eq_of_mem_set hx with hx | rfl
     ·have:=hsm x hx;omega
     ·exact⟨by dsimp only;omega,by dsimp only;omega⟩
    ·show (out.set 0 ⟨x1.cy,q⟩).length≤_;rw[List.length_set];omega
   ·intro h80;refine uO 14 ?_;refine fy ?_;refine⟨⟨some Ao_p,co,out⟩,rfl,fun e2=>?_,?_,?_,fz (qL ((hS.p 2).p 2))⟩
    ·show bN (out.map RL.d) e2=_;exact hcov e2
    ·intro x hx;have:=hsm x hx;omega
    ·show out.length≤_;omega
  ·intro h74;refine uO 20 ?_;refine fy ?_;refine⟨⟨Ao,co,out⟩,rfl,fun e2=>?_,?_,?_,fz (qL ((hS.p 2).p 2))⟩
   ·show bN (out.map RL.d) e2=_;exact hcov e2
   ·intro x hx;have:=hsm x hx;omega
   ·show out.length≤_;omega
theorem yE (W:World)(B:Option Addr)(d:Nat)(xs:List aV)(A:Option Addr)(c:Nat)(rs:List RL)(hX:fI W B d xs)(hlx:xs.length≤1000000000000)(hEx:cd xs=true)(hR:fO W A c rs)(hE:∀r∈rs,r.p.ok W)(hB:dx 10000000000 rs)(hl:rs.length≤1000000000000)(hs:cN (rs.map fun r=>r.p.d)≤16777216)(hF:cz (rs.map RL.d)=true):Calls Tryz.prog 346 #[.slice B (xs).length d,.slice A (rs).length c] W fun e w'=>∃A' c',e=.returned (.tuple #[.slice A' (xs.filter (fun e2=>!bN (rs.map RL.d) e2)).length c',.int .i64 0])∧Sat W w' [iY 216 A' c' (xs.filter (fun e2=>!bN (rs.map RL.d) e2))]:=by
 refine enter Tryz.func346 rfl rfl rfl (.cons (i:=0) rfl (.cons (i:=1) rfl .nil)) ?_;have hS:=Sat.start W;refine uC 10 ?_;refine uF vT rfl (gE _ B d xs (hX.sat hS) hlx) ?_;rintro e w ⟨rfl,hT⟩;rw[if_pos hEx];replace hS:Sat _ _ _:=hS.ai hT;clear hT;refine⟨_,rfl,?_⟩;refine u1 2 (dP (aK rfl rfl) (by omega)) ?_;intro a hA;refine dQ hA (ao hA rfl rfl rfl) rfl tA rfl (fC _ A c rs (hR.sat hS) (fun r h=>(hE r h).sat hS) hB hl) ?_;clear hA a;rintro e w ⟨rfl,hT⟩;rw[if_pos hF];replace hS:Sat _ _ _:=hS.ai hT;clear hT;refine⟨_,rfl,?_⟩;refine u1 9 (dP (aK rfl rfl) (by omega)) ?_;refine uF It rfl (z6 _ A c rs (hR.sat hS) (fun r h=>(hE r h).sat hS) hB hl hs hF) ?_;rintro e w ⟨q,rfl,hqc,hqs,hql,hT⟩;replace hS:=hS.aB hT;clear hT;refine⟨_,rfl,?_⟩
 refine uO 1 ?_;refine u1 0 (au rfl rfl) ?_;refine u1 13 (au rfl rfl) ?_;refine u1 3 (ar rfl bA) ?_;intro a hA;replace hA:=hA.kp [4,5,6,8,24,25,26] rfl;refine rC 1 hA ?_;clear hA a;intro a hA;refine wp_loop_ghost (fun (mm:Nat) a w=>∃(i:Nat) (out:List aV) (Ao:Option Addr) (co:Nat),Ag a 40 [(6,.slice q.a q.rs.length q.c),(8,.slice Ao (out).length co),(24,.slice B (xs).length d),(25,.int .i64 ((xs.length:Nat):Int)),(26,.int .i64 ((i:Nat):Int))]∧Sat W w ([iY 216 Ao co out,q.ch 206 3 219])∧(i≤xs.length)∧(out=(xs.take i).filter (fun e2=>!bN (rs.map RL.d) e2))∧(out.length≤i)∧mm=xs.length-i) xs.length ?_ ?_
 ·replace hA:=hA.kp [6,8,24,25,26] rfl;exact⟨0,[],none,0,hA,(hS.aY 216 4),(by omega),(by rfl),(by simp),by omega⟩
 intro m a w hI;clear hS hA;obtain⟨i,out,Ao,co,hA,hS,hi,ho,hol,rfl⟩:=hI;refine rC 2 hA ?_;clear hA a;refine aR 0 0 (aw rfl rfl) ?_ ?_
 ·intro h27;refine uO 10 ?_;obtain⟨B_p,rfl⟩:∃q,B=some q:=(hX.sat hS).av (by omega);obtain⟨x,hx⟩:∃zz_,xs[i]?=some zz_:=⟨_,List.getElem?_eq_getElem (by omega)⟩;refine u1 0 (aj rfl rfl bA cX (by omega) (by omega)) ?_;refine u1 0 (ad (cs:=mC x) rfl ml cX (fun j u e=>bJ (hX.sat hS) (cP hx j u e))) ?_;refine uN BY hS ?_;clear hS;intro b10 w hS;refine uW (vs:=[_,_,_,_]) (cs':=[_,_,_,_]) rfl rfl cX hS ?_;clear hS;intro w hS;refine uO 5 ?_;refine u1 0 (ad (cs:=[_,_,_,_]) rfl ml cX (by exact hS.ag (xs:=[_,_,_,_]) rfl)) ?_;intro a hA;refine yk hA rfl Ks rfl (AN _ q.a q.c q.rs x (jq.vq (hS.p 2)).top (fun r h=>(jq.vq (hS.p 2)).each r h) hqs hql) ?_;clear hA a;rintro e w ⟨rfl,hT⟩;replace hS:Sat _ _ _:=hS.ai hT;clear hT;refine⟨_,rfl,?_⟩;refine aR 0 0 (bn rfl rfl) ?_ ?_
  ·intro h33;refine uO 5 ?_;refine u1 0 (ad (cs:=[_,_,_,_]) rfl ml cX (by exact hS.ag (xs:=[_,_,_,_]) rfl)) ?_;intro a hA;refine ji (vss:=[[_,_,_,_]]) hA rfl rfl bA i7 rfl rfl rfl (by simp) rfl hS ?_;clear hA a hS;intro A36 w hS;intro a hA;refine dy hA rfl rfl rfl bA i7 rfl (hS.p 2) (hS.rd.src bA (by simp[Value.oneCell'])) (by omega) (by omega) ?_;clear hA a hS;intro A37 c37 w hc37 hS;refine uO 5 ?_;refine u1 2 (ah rfl rfl (by omega) (by omega)) ?_;intro a hA;replace hA:=hA.kp [6,8,24,25,26] rfl;have ef:=iG (p:=fun e2=>!bN (rs.map RL.d) e2) hx;have hqx:bN (q.rs.map RL.d) x=bN (rs.map RL.d) x:=hqc x;rw[if_pos (by rw[←hqx,Bool.not_eq_true'];exact uM.1 (by omega))]at ef;have el:out.length+1=(out++[x]).length:=by simp
   have hS2:=iH hS el (cs':=(out++[x]).flatMap mC) (by rw[List.flatMap_append];rfl);rw[el]at hA;exact⟨xs.length-(i+1),by omega,i+1,out++[x],A37,c37,hA,oO ((hS2.p 3).p 1),by omega,by rw[ho,ef],by simp;omega,rfl⟩
  ·intro h33;refine uO 7 ?_;refine u1 2 (ah rfl rfl (by omega) (by omega)) ?_;intro a hA;replace hA:=hA.kp [6,8,24,25,26] rfl;have ef:=iG (p:=fun e2=>!bN (rs.map RL.d) e2) hx;have hqx:bN (q.rs.map RL.d) x=bN (rs.map RL.d) x:=hqc x;rw[if_neg (by rw[←hqx];intro h;rw[Bool.not_eq_true']at h;exact h33 (by rw[uM.2 h];rfl)),List.append_nil]at ef;exact⟨xs.length-(i+1),by omega,i+1,out,Ao,co,hA,hS.drop,by omega,by rw[ef];exact ho,by omega,rfl⟩
 ·intro h27;refine uO 17 ?_;refine fy ?_;obtain rfl:i=xs.length:=by omega
  rw[List.take_length]at ho;subst ho;exact⟨_,_,rfl,fz hS⟩
end Go.Proofs.YtkjabaihpkbfhaaGreat.Wk
namespace Go.Proofs.YtkjabaihpkbfhaaGreat.Wk
open Go Go.RowKit Go.Proofs.YtkjabaihpkbfhaaGreat Go.Proofs.YtkjabaihpkbfhaaGreat.K
def aH (s:jP):Bool:=cd s.lQ && (bL s.bF && cz s.nG)
def bH (s:jP):Bool:=aH s && (ck (l0 (s.lQ.map aV.dot)) s.bF && ((s.nG.all fun r=>!ck r.bF s.bF) && (s.lQ.all fun e=>!bN s.nG e)))
structure jY (s:SL):Prop where
 es:s.e.es.length≤16777216
 pv:s.p.d.vec.length≤1000000000000
 pc:s.p.d.ab.length≤16777216
 rv:∀r∈s.r.rs,r.p.d.vec.length≤1000000000000
 rs:cN (s.r.rs.map fun r=>r.p.d)≤16777216
theorem u7 {ps:List aL}{p:aL}(h:p∈ps):p.ab.length+1≤cN ps:=by
 induction ps with
 | nil=>cases h
 | cons q ps ih =>
   unfold cN at *;rw[List.map_cons,List.sum_cons];rcases List.mem_cons.1 h with rfl | h
   ·
    omega
   ·
    have:=ih h;omega
theorem fv {rs:List RL}{n:Nat}(hv:∀r∈rs,r.p.d.vec.length≤1000000000000)(hs:cN (rs.map fun r=>r.p.d)≤n):dx n rs:=fun r hr=>⟨hv r hr,by have:=u7 (List.mem_map.2 ⟨r,hr,rfl⟩:r.p.d∈rs.map fun r=>r.p.d);omega⟩
theorem dx.mono {m n:Nat}{rs:List RL}(h:dx m rs)(hm:m≤n):dx n rs:=fun r hr=>⟨(h r hr).1,Nat.le_trans (h r hr).2 hm⟩
theorem jW {rs:List RL}{n:Nat}(hs:cN (rs.map fun r=>r.p.d)≤n):rs.length≤n:=by
 have:=ql (rs.map fun r=>r.p.d);rw[List.length_map]at this;omega
theorem all_filter {α:Type}(p:α→Bool):∀l:List α,((l.filter p).length=l.length)↔l.all p=true:=fun l=>by
 rw[List.all_eq_true];exact List.length_filter_eq_length_iff
theorem DZ (rs:List bW)(es:List aV):(es.all fun e=>!bN rs e)=rs.all fun r=>es.all fun e=>!gZ r e:=by
 rw[Bool.eq_iff_iff];simp only[List.all_eq_true,Bool.not_eq_true'];constructor
 ·
  intro h r hr e he;have:=h e he;unfold bN at this;rw[List.any_eq_false]at this;simpa using this r hr
 ·
  intro h e he;unfold bN;rw[List.any_eq_false];intro r hr;simpa using h r hr e he
theorem Bk {α:Type}(p q:α→Bool):∀l:List α,(l.all p && l.all q)=l.all fun x=>p x && q x
 | []=>rfl
 | x :: l => by
   rw[List.all_cons,List.all_cons,List.all_cons,←Bk p q l];cases p x<;>cases q x<;>simp
theorem zu {α:Type}{p:α→Bool}{xs:List α}{i:Nat}{x:α}(h:xs[i]?=some x):(xs.take (i+1)).all p=((xs.take i).all p && p x):=by
 rw[aD h,List.all_append];simp
theorem Bc {α:Type}{p:α→Bool}{xs:List α}{i:Nat}{x:α}(h:xs[i]?=some x)(hp:p x=false):xs.all p=false:=by
 rw[List.all_eq_false];exact⟨x,List.mem_of_getElem? h,by rw[hp];simp⟩
theorem yz (xs:List aV):(l0 (xs.map aV.dot)).ab.length≤16 * (xs.length+1):=by
 have:=jA ⟨[],(xs.map aV.dot).map fun d=>⟨d.rep,d.num,d.num⟩⟩;unfold l0;simpa using this
theorem yY (xs:List aV):(l0 (xs.map aV.dot)).vec.length≤16:=(iL _).len
theorem tn (rs:List bW)(es:List aV)(p:aL):((rs.all fun r=>!ck r.bF p) && (es.all fun e=>!bN rs e))=rs.all fun r=>!ck r.bF p && es.all fun e=>!gZ r e:=by
 rw[DZ,Bk]
theorem Hn {x y:RL}(h1:x.cy=y.cy)(h2:x.p.d=y.p.d):x.d=y.d:=by unfold RL.d;rw[h1,h2]
theorem DT {a b:jP}(h1:a.lQ=b.lQ)(h2:a.bF=b.bF)(h3:a.nG=b.nG):a=b:=by cases a;cases b;simp only at h1 h2 h3;subst h1 h2 h3;rfl
end Go.Proofs.YtkjabaihpkbfhaaGreat.Wk
namespace Go.Proofs.YtkjabaihpkbfhaaGreat.Wk
open Go Go.RowKit Go.Proofs.YtkjabaihpkbfhaaGreat Go.Proofs.YtkjabaihpkbfhaaGreat.K Go.Proofs.YtkjabaihpkbfhaaGreat.T
theorem qD (W:World)(s:SL)(hp:s.ok W)(hs:jY s):Calls Tryz.prog 433 #[.agg #[.slice s.e.a s.e.es.length s.e.c,.slice s.p.va s.p.d.vec.length s.p.vc,.slice s.p.ca s.p.d.ab.length s.p.cc,.slice s.r.a s.r.rs.length s.r.c]] W fun e w'=>e=.returned (.int .i64 (if aH s.d=true then 0 else 1))∧Sat W w' []:=by
 refine enter Tryz.func433 rfl rfl rfl (.cons (i:=0) rfl .nil) ?_;have hS:=Sat.start W;obtain⟨⟨ea,ec,es⟩,p,⟨ra,rc,rs⟩⟩:=s;have he:fI W ea ec es:=hp.e;have hpp:p.ok W:=hp.p;have hrt:fO W ra rc rs:=hp.r.top;have hre:∀r∈rs,r.p.ok W:=hp.r.each;have hel:es.length≤16777216:=hs.es;have hpv:p.d.vec.length≤1000000000000:=hs.pv;have hpc:p.d.ab.length≤16777216:=hs.pc;have hrs:cN (rs.map fun r=>r.p.d)≤16777216:=hs.rs;have hrb:dx 10000000000 rs:=(fv hs.rv hrs).mono (by decide);have hrl:=jW hrs;refine uC 2 ?_;refine uB rfl hS ?_;clear hS;intro b1 w hS;refine uO 6 ?_;refine u1 0 (aa rfl sc) ?_;refine u1 0 (ld rfl ma) ?_;refine uF vT rfl (gE _ ea ec es (he.sat hS) (by omega)) ?_;rintro e w ⟨rfl,hT⟩;replace hS:Sat _ _ _:=hS.ai hT;clear hT;refine⟨_,rfl,?_⟩;refine aR 0 0 (aK rfl rfl) ?_ ?_
 ·intro h6;refine uO 22 ?_;refine aX ?_;refine⟨?_,hS.nil⟩;unfold aH SL.d jq.d;dsimp only;rw[show cd es=false from by simpa using h6];rfl
 ·intro h6;refine uO 1 ?_;refine u1 0 (aa rfl r6) ?_;refine u1 0 (ad (cs:=[_,_]) rfl a6 aC (by exact hS.ag (xs:=[_,_]) rfl)) ?_;intro a hA;refine dQ hA (ao hA rfl rfl rfl) rfl uU rfl (fE _ p (hpp.sat hS) (by omega) hpv) ?_;clear hA a;rintro e w ⟨rfl,hT⟩;replace hS:Sat _ _ _:=hS.ai hT;clear hT;generalize h10:(bL p.d)=bb;cases bb
  ·refine⟨_,rfl,?_⟩;refine u1 17 (aM rfl) ?_;refine aX ?_;refine⟨?_,hS.nil⟩;unfold aH SL.d jq.d;dsimp only;rw[show cd es=true from by simpa using h6,h10];rfl
  ·refine⟨_,rfl,?_⟩;refine u1 2 (aM rfl) ?_;refine u1 0 (aa rfl rI) ?_;refine u1 0 (ld rfl l5) ?_;intro a hA;refine dQ hA (ao hA rfl rfl rfl) rfl tA rfl (fC _ ra rc rs (hrt.sat hS) (fun r h=>(hre r h).sat hS) hrb (by omega)) ?_;clear hA a;rintro e w ⟨rfl,hT⟩;replace hS:Sat _ _ _:=hS.ai hT;clear hT;refine⟨_,rfl,?_⟩;refine aR 0 0 (aK rfl rfl) ?_ ?_
   ·intro h17;refine uO 11 ?_;refine aX ?_;refine⟨?_,hS.nil⟩;unfold aH SL.d jq.d;dsimp only;rw[show cd es=true from by simpa using h6,h10,show cz (rs.map RL.d)=false from by simpa using h17];rfl
   ·intro h17;refine uO 12 ?_;refine aX ?_;refine⟨?_,hS.nil⟩;unfold aH SL.d jq.d;dsimp only;rw[show cd es=true from by simpa using h6,h10,show cz (rs.map RL.d)=true from by simpa using h17];rfl
theorem vF (W:World)(s:SL)(hp:s.ok W)(hs:jY s):Calls Tryz.prog 141 #[.agg #[.slice s.e.a s.e.es.length s.e.c,.slice s.p.va s.p.d.vec.length s.p.vc,.slice s.p.ca s.p.d.ab.length s.p.cc,.slice s.r.a s.r.rs.length s.r.c]] W fun e w'=>e=.returned (.int .i64 (if aH s.d=true then 0 else 1))∧Sat W w' []:=by
 refine enter Tryz.func141 rfl rfl rfl (.cons (i:=0) rfl .nil) ?_;have hS:=Sat.start W;obtain⟨⟨ea,ec,es⟩,p,⟨ra,rc,rs⟩⟩:=s;have he:fI W ea ec es:=hp.e;have hpp:p.ok W:=hp.p;have hrt:fO W ra rc rs:=hp.r.top;have hre:∀r∈rs,r.p.ok W:=hp.r.each;have hel:es.length≤16777216:=hs.es;have hpv:p.d.vec.length≤1000000000000:=hs.pv;have hpc:p.d.ab.length≤16777216:=hs.pc;have hrs:cN (rs.map fun r=>r.p.d)≤16777216:=hs.rs;have hrb:dx 10000000000 rs:=(fv hs.rv hrs).mono (by decide);have hrl:=jW hrs;refine uC 2 ?_;refine uB rfl hS ?_;clear hS;intro b1 w hS;refine uO 6 ?_;refine u1 0 (aa rfl sc) ?_;refine u1 0 (ld rfl ma) ?_;refine uF II rfl (vA _ ea ec es (he.sat hS) (by omega)) ?_;rintro e w ⟨rfl,hT⟩;replace hS:Sat _ _ _:=hS.ai hT;clear hT;refine⟨_,rfl,?_⟩;refine aR 0 0 (aK rfl rfl) ?_ ?_
 ·intro h6;refine uO 22 ?_;refine aX ?_;refine⟨?_,hS.nil⟩;unfold aH SL.d jq.d;dsimp only;rw[show cd es=false from by simpa using h6];rfl
 ·intro h6;refine uO 1 ?_;refine u1 0 (aa rfl r6) ?_;refine u1 0 (ad (cs:=[_,_]) rfl a6 aC (by exact hS.ag (xs:=[_,_]) rfl)) ?_;intro a hA;refine dQ hA (ao hA rfl rfl rfl) rfl u9 rfl (fe _ p (hpp.sat hS) (by omega) hpv) ?_;clear hA a;rintro e w ⟨rfl,hT⟩;replace hS:Sat _ _ _:=hS.ai hT;clear hT;generalize h10:(bL p.d)=bb;cases bb
  ·refine⟨_,rfl,?_⟩;refine u1 17 (aM rfl) ?_;refine aX ?_;refine⟨?_,hS.nil⟩;unfold aH SL.d jq.d;dsimp only;rw[show cd es=true from by simpa using h6,h10];rfl
  ·refine⟨_,rfl,?_⟩;refine u1 2 (aM rfl) ?_;refine u1 0 (aa rfl rI) ?_;refine u1 0 (ld rfl l5) ?_;intro a hA;refine dQ hA (ao hA rfl rfl rfl) rfl GH rfl (p6 _ ra rc rs (hrt.sat hS) (fun r h=>(hre r h).sat hS) hrb (by omega)) ?_;clear hA a;rintro e w ⟨rfl,hT⟩;replace hS:Sat _ _ _:=hS.ai hT;clear hT;refine⟨_,rfl,?_⟩;refine aR 0 0 (aK rfl rfl) ?_ ?_
   ·intro h17;refine uO 11 ?_;refine aX ?_;refine⟨?_,hS.nil⟩;unfold aH SL.d jq.d;dsimp only;rw[show cd es=true from by simpa using h6,h10,show cz (rs.map RL.d)=false from by simpa using h17];rfl
   ·intro h17;refine uO 12 ?_;refine aX ?_;refine⟨?_,hS.nil⟩;unfold aH SL.d jq.d;dsimp only;rw[show cd es=true from by simpa using h6,h10,show cz (rs.map RL.d)=true from by simpa using h17];rfl
theorem qb (W:World)(s:SL)(hp:s.ok W)(hs:jY s):Calls Tryz.prog 343 #[.agg #[.slice s.e.a s.e.es.length s.e.c,.slice s.p.va s.p.d.vec.length s.p.vc,.slice s.p.ca s.p.d.ab.length s.p.cc,.slice s.r.a s.r.rs.length s.r.c]] W fun e w'=>e=.returned (.int .i64 (if bH s.d=true then 0 else 1))∧Sat W w' []:=by
 refine enter Tryz.func343 rfl rfl rfl (.cons (i:=0) rfl .nil) ?_;have hS:=Sat.start W;obtain⟨⟨ea,ec,es⟩,p,⟨ra,rc,rs⟩⟩:=s;have he:fI W ea ec es:=hp.e;have hpp:p.ok W:=hp.p;have hrt:fO W ra rc rs:=hp.r.top;have hre:∀r∈rs,r.p.ok W:=hp.r.each;have hel:es.length≤16777216:=hs.es;have hpv:p.d.vec.length≤1000000000000:=hs.pv;have hpc:p.d.ab.length≤16777216:=hs.pc;have hrs:cN (rs.map fun r=>r.p.d)≤16777216:=hs.rs;have hrb:dx 10000000000 rs:=(fv hs.rv hrs).mono (by decide);have hrl:=jW hrs;refine uC 2 ?_;refine uB rfl hS ?_;clear hS;intro b1 w hS;refine uO 6 ?_;refine u1 0 (aa rfl jV) ?_;refine u1 0 (ld rfl ma) ?_;refine uF vT rfl (gE _ ea ec es (he.sat hS) (by omega)) ?_;rintro e w ⟨rfl,hT⟩;replace hS:Sat _ _ _:=hS.ai hT;clear hT;refine⟨_,rfl,?_⟩;refine aR 0 0 (aK rfl rfl) ?_ ?_
 ·intro h12;refine uO 22 ?_;refine aX ?_;refine⟨?_,hS.nil⟩;unfold bH aH SL.d jq.d;dsimp only;rw[show cd es=false from by simpa using h12];rfl
 ·intro h12;refine uO 1 ?_;refine u1 0 (aa rfl l9) ?_;refine u1 0 (ad (cs:=[_,_]) rfl a6 aC (by exact hS.ag (xs:=[_,_]) rfl)) ?_;intro a hA;refine dQ hA (ao hA rfl rfl rfl) rfl uU rfl (fE _ p (hpp.sat hS) (by omega) hpv) ?_;clear hA a;rintro e w ⟨rfl,hT⟩;replace hS:Sat _ _ _:=hS.ai hT;clear hT;generalize h16:(bL p.d)=bb;cases bb
  ·refine⟨_,rfl,?_⟩;refine u1 17 (aM rfl) ?_;refine aX ?_;refine⟨?_,hS.nil⟩;unfold bH aH SL.d jq.d;dsimp only;rw[show cd es=true from by simpa using h12,h16];rfl
  ·refine⟨_,rfl,?_⟩;refine u1 2 (aM rfl) ?_;refine u1 0 (aa rfl j3) ?_;refine u1 0 (ld rfl l5) ?_;intro a hA;refine dQ hA (ao hA rfl rfl rfl) rfl tA rfl (fC _ ra rc rs (hrt.sat hS) (fun r h=>(hre r h).sat hS) hrb (by omega)) ?_;clear hA a;rintro e w ⟨rfl,hT⟩;replace hS:Sat _ _ _:=hS.ai hT;clear hT;refine⟨_,rfl,?_⟩;refine aR 0 0 (aK rfl rfl) ?_ ?_
   ·intro h23;refine uO 11 ?_;refine aX ?_;refine⟨?_,hS.nil⟩;unfold bH aH SL.d jq.d;dsimp only;rw[show cd es=true from by simpa using h12,h16,show cz (rs.map RL.d)=false from by simpa using h23];rfl
   ·intro h23;refine uO 9 ?_;refine u1 0 (aa rfl jV) ?_;refine u1 0 (ld rfl ma) ?_;refine uF Jk rfl (yi _ ea ec es (he.sat hS) (by omega) (by simpa using h12)) ?_;rintro e w ⟨q,rfl,hq,hT⟩;have hql:=yz es;rw[←hq]at hql;have hqv:=yY es;rw[←hq]at hqv;replace hS:Sat _ _ (_::_::_):=hS.ai hT;clear hT;refine⟨_,rfl,?_⟩;refine uO 1 ?_;refine u1 0 (au rfl rfl) ?_;refine u1 0 (au rfl rfl) ?_;refine uN dL hS ?_;clear hS;intro b3 w hS;refine uW (vs:=[_,_]) (cs':=[_,_]) rfl rfl aC hS ?_;clear hS;intro w hS;refine uO 5 ?_;refine u1 0 (ad (cs:=[_,_]) rfl a6 aC (by exact hS.ag (xs:=[_,_]) rfl)) ?_;refine u1 0 (aa rfl l9) ?_;refine u1 0 (ad (cs:=[_,_]) rfl a6 aC (by exact (hS.p 3).ag (xs:=[_,_]) rfl)) ?_
    refine uF GF rfl (o2 _ q p ⟨(hS.p 1).rd,(hS.p 2).rd⟩ (hpp.sat hS) (by omega) (by omega)) ?_;rintro e w ⟨rfl,hT⟩;replace hS:Sat _ _ _:=hS.ai hT;clear hT;generalize h34:(ck q.d p.d)=bb;cases bb
    ·refine⟨_,rfl,?_⟩;refine u1 2 (aM rfl) ?_;intro a hA;replace hA:=hA.kp [1,2,35] rfl;refine rC 8 hA ?_;clear hA a;refine aX ?_;refine⟨?_,hS.nil⟩;unfold bH aH SL.d jq.d;dsimp only;rw[show cd es=true from by simpa using h12,h16,show cz (rs.map RL.d)=true from by simpa using h23,←hq,h34];simp
    ·refine⟨_,rfl,?_⟩;refine u1 2 (aM rfl) ?_;intro a hA;replace hA:=hA.kp [1,2,35] rfl;refine rC 6 hA ?_;clear hA a;refine u1 0 (aa rfl j3) ?_;refine u1 0 (ld rfl l5) ?_;refine u1 0 (aa rfl l9) ?_;refine u1 0 (ad (cs:=[_,_]) rfl a6 aC (by exact (hS.p 3).ag (xs:=[_,_]) rfl)) ?_;refine uF I8 rfl (zb _ ra rc rs p (hrt.sat hS) (fun r h=>(hre r h).sat hS) hrb (by omega) (hpp.sat hS) hpv (by omega) (by simpa using h23) h16) ?_;rintro e w ⟨z,rfl,hz,hT⟩;replace hS:=hS.aB hT;clear hT;refine⟨_,rfl,?_⟩;refine uO 1 ?_;refine u1 0 (au rfl rfl) ?_;refine u1 7 (au rfl rfl) ?_;refine u1 0 (ar rfl db) ?_;refine u1 0 (aa rfl j3) ?_;refine u1 0 (ld rfl l5) ?_;refine u1 0 (ar rfl db) ?_;refine aR 0 0 (aK rfl rfl) ?_ ?_
     ·intro h49;intro a hA;dsimp only at h49;refine rO 10 hA ?_;clear hA a;refine aX ?_;refine⟨?_,hS.nil⟩;unfold bH aH SL.d jq.d;dsimp only
      rw[show cd es=true from by simpa using h12,h16,show cz (rs.map RL.d)=true from by simpa using h23,←hq,h34,show ((rs.map RL.d).all fun r=>!ck r.bF p.d)=false from by
       rw[Bool.eq_false_iff,ne_eq,←all_filter];have hl:=congrArg List.length hz;rw[show z.d.length=z.rs.length from by simp[jq.d]]at hl;rw[←hl,List.length_map];omega];simp
     ·intro h49;intro a hA;dsimp only at h49;refine rO 8 hA ?_;clear hA a;refine u1 0 (aa rfl jV) ?_;refine u1 0 (ld rfl ma) ?_;refine u1 0 (aa rfl j3) ?_;refine u1 0 (ld rfl l5) ?_;refine uF I1 rfl (yE _ ea ec es ra rc rs (he.sat hS) (by omega) (by simpa using h12) (hrt.sat hS) (fun r h=>(hre r h).sat hS) hrb (by omega) hrs (by simpa using h23)) ?_;rintro e w ⟨A55,c55,rfl,hT⟩;replace hS:=hS.aB hT;clear hT;refine⟨_,rfl,?_⟩;refine uO 1 ?_;refine u1 0 (au rfl rfl) ?_;refine u1 4 (au rfl rfl) ?_;intro a hA;replace hA:=hA.kp [1,2,7] rfl;refine rC 3 hA ?_;clear hA a;refine u1 0 (ar rfl bA) ?_;refine u1 0 (aa rfl jV) ?_;refine u1 0 (ld rfl ma) ?_;refine u1 0 (ar rfl bA) ?_;refine aR 0 0 (aK rfl rfl) ?_ ?_
      ·intro h63;intro a hA;dsimp only at h63;refine rO 10 hA ?_;clear hA a;refine aX ?_;refine⟨?_,hS.nil⟩;unfold bH aH SL.d jq.d;dsimp only
       rw[show cd es=true from by simpa using h12,h16,show cz (rs.map RL.d)=true from by simpa using h23,←hq,h34,show ((rs.map RL.d).all fun r=>!ck r.bF p.d)=true from by
        rw[←all_filter];have hl:=congrArg List.length hz;rw[show z.d.length=z.rs.length from by simp[jq.d]]at hl;rw[←hl,List.length_map];omega,show (es.all fun e=>!bN (rs.map RL.d) e)=false from by
        rw[Bool.eq_false_iff,ne_eq,←all_filter];omega];rfl
      ·intro h63;intro a hA;dsimp only at h63;refine rO 11 hA ?_;clear hA a;refine aX ?_;refine⟨?_,hS.nil⟩;unfold bH aH SL.d jq.d;dsimp only
       rw[show cd es=true from by simpa using h12,h16,show cz (rs.map RL.d)=true from by simpa using h23,←hq,h34,show ((rs.map RL.d).all fun r=>!ck r.bF p.d)=true from by
        rw[←all_filter];have hl:=congrArg List.length hz;rw[show z.d.length=z.rs.length from by simp[jq.d]]at hl;rw[←hl,List.length_map];omega,show (es.all fun e=>!bN (rs.map RL.d) e)=true from by
        rw[←all_filter];omega];rfl
theorem w3 (W:World)(s:SL)(hp:s.ok W)(hs:jY s):Calls Tryz.prog 186 #[.agg #[.slice s.e.a s.e.es.length s.e.c,.slice s.p.va s.p.d.vec.length s.p.vc,.slice s.p.ca s.p.d.ab.length s.p.cc,.slice s.r.a s.r.rs.length s.r.c]] W fun e w'=>e=.returned (.bool (bH s.d))∧Sat W w' []:=by
 refine enter Tryz.func186 rfl rfl rfl (.cons (i:=0) rfl .nil) ?_;have hS:=Sat.start W;obtain⟨⟨ea,ec,es⟩,p,⟨ra,rc,rs⟩⟩:=s;have he:fI W ea ec es:=hp.e;have hpp:p.ok W:=hp.p;have hrt:fO W ra rc rs:=hp.r.top;have hre:∀r∈rs,r.p.ok W:=hp.r.each;have hel:es.length≤16777216:=hs.es;have hpv:p.d.vec.length≤1000000000000:=hs.pv;have hpc:p.d.ab.length≤16777216:=hs.pc;have hrs:cN (rs.map fun r=>r.p.d)≤16777216:=hs.rs;have hrb:dx 10000000000 rs:=(fv hs.rv hrs).mono (by decide);have hrl:=jW hrs;refine uC 2 ?_;refine uB rfl hS ?_;clear hS;intro b1 w hS;refine uO 6 ?_;refine u1 0 (aa rfl jV) ?_;refine u1 0 (ld rfl ma) ?_;refine uF Kd rfl (vj _ ea ec es (he.sat hS) (by omega)) ?_;rintro e w ⟨rfl,hT⟩;replace hS:Sat _ _ _:=hS.ai hT;clear hT;generalize h7:(cd es)=bb;cases bb
 ·refine⟨_,rfl,?_⟩;refine u1 22 (aM rfl) ?_;refine aX ?_;refine⟨?_,hS.nil⟩;unfold bH aH SL.d jq.d;dsimp only;rw[h7];rfl
 ·refine⟨_,rfl,?_⟩;refine u1 1 (aM rfl) ?_;refine u1 0 (aa rfl l9) ?_;refine u1 0 (ad (cs:=[_,_]) rfl a6 aC (by exact hS.ag (xs:=[_,_]) rfl)) ?_;intro a hA;refine dQ hA (ao hA rfl rfl rfl) rfl u9 rfl (fe _ p (hpp.sat hS) (by omega) hpv) ?_;clear hA a;rintro e w ⟨rfl,hT⟩;replace hS:Sat _ _ _:=hS.ai hT;clear hT;generalize h12:(bL p.d)=bb;cases bb
  ·refine⟨_,rfl,?_⟩;refine u1 17 (aM rfl) ?_;refine aX ?_;refine⟨?_,hS.nil⟩;unfold bH aH SL.d jq.d;dsimp only;rw[h7,h12];rfl
  ·refine⟨_,rfl,?_⟩;refine u1 2 (aM rfl) ?_;refine u1 0 (aa rfl j3) ?_;refine u1 0 (ld rfl l5) ?_;intro a hA;refine dQ hA (ao hA rfl rfl rfl) rfl Kz rfl (vm _ ra rc rs (hrt.sat hS) (fun r h=>(hre r h).sat hS) hrb (by omega)) ?_;clear hA a;rintro e w ⟨rfl,hT⟩;replace hS:Sat _ _ _:=hS.ai hT;clear hT;generalize h18:(cz (rs.map RL.d))=bb;cases bb
   ·refine⟨_,rfl,?_⟩;refine u1 11 (aM rfl) ?_;refine aX ?_;refine⟨?_,hS.nil⟩;unfold bH aH SL.d jq.d;dsimp only;rw[h7,h12,h18];rfl
   ·refine⟨_,rfl,?_⟩;refine u1 8 (aM rfl) ?_;intro a hA;refine bh [5] hS (by kernel_rfl) ?_;replace hS:=hS.drew;refine P1 0 [] hA rfl (fun w=>(aa (hA.ev rfl) jV)) ?_;clear hA a;refine cT 1 [] rfl (by exact⟨[],hS⟩) (fun w hT=>have hS:=hT.sat;(ld rfl ma)) ?_;refine bz 3 [] rfl (fun w=>(aa rfl l9)) ?_;refine cT 4 [] rfl (by exact⟨[],hS⟩) (fun w hT=>have hS:=hT.sat;(ad (cs:=[_,_]) rfl a6 aC (by exact hS.ag (xs:=[_,_]) rfl))) ?_;intro a hA;refine aG 2 (by kernel_rfl) ?_;refine eF hA rfl rfl KE rfl (zK _ ea ec es (he.sat hS) (by omega)) ?_;clear hA a;rintro e w ⟨q,rfl,hq,hT⟩;have hql:=yz es;rw[←hq]at hql;have hqv:=yY es;rw[←hq]at hqv;replace hS:Sat _ _ (_::_::_):=hS.ai hT;clear hT;refine⟨_,rfl,?_⟩;intro a hA;refine⟨.inr fun _=>(by exact⟨[_,_],hS⟩),?_⟩;refine aG 5 (by kernel_rfl) ?_
    refine eF hA rfl rfl Ha rfl (pa _ q p ⟨hS.rd,(hS.p 1).rd⟩ (hpp.sat hS) (by omega) (by omega)) ?_;clear hA a;rintro e w ⟨rfl,hT⟩;replace hS:Sat _ _ _:=hS.ai hT;clear hT;refine⟨_,rfl,?_⟩;intro a hA;refine⟨.inl rfl,?_⟩;refine K.LH 6 hA pk rfl rfl rfl rfl (by kernel_rfl) (by kernel_rfl) (by kernel_rfl) (fun w=>(aM (hA.ev rfl))) ?_ ?_
    ·clear hA a;intro h27;intro a hA;simp only[decide_eq_decide,decide_eq_true_eq,decide_eq_false_iff_not,Bool.not_eq_true',Bool.not_eq_false',bne_iff_ne,ne_eq,beq_iff_eq,Bool.not_eq_true,Bool.not_eq_false]at h27;refine ak (by kernel_rfl) ?_ _;refine rE 9 hA ?_;clear hA a;refine aX ?_;refine⟨?_,hS.nil⟩;unfold bH aH SL.d jq.d;dsimp only;rw[h7,h12,h18,←hq,show ck q.d p.d=false from by simpa using h27];simp
    ·clear hA a;intro h27;intro a hA;simp only[decide_eq_decide,decide_eq_true_eq,decide_eq_false_iff_not,Bool.not_eq_true',Bool.not_eq_false',bne_iff_ne,ne_eq,beq_iff_eq,Bool.not_eq_true,Bool.not_eq_false]at h27;refine ak (by kernel_rfl) ?_ _;refine rE 11 hA ?_;clear hA a;intro a hA;refine wp_loop_ghost (fun (mm:Nat) a w=>∃(i:Nat),Ag a 62 [(1,.pointer (some ⟨b1,0,none⟩)),(3,.int .i64 ((i:Nat):Int))]∧Sat W w ([a8 b1 (.cells #[.slice ea es.length ec,.slice p.va p.d.vec.length p.vc,.slice p.ca p.d.ab.length p.cc,.slice ra rs.length rc] 70)])∧(i≤rs.length)∧(((rs.map RL.d).take i).all (fun r=>!ck r.bF p.d && es.all fun e2=>!gZ r e2)=true)∧mm=rs.length-i) rs.length ?_ ?_
     ·replace hA:=hA.kp [1,3] rfl;exact⟨0,hA,fz (hS.p 2),(by omega),(by rfl),by omega⟩
     intro m a w hI;clear hS hA;obtain⟨i,hA,hS,hi,hw,rfl⟩:=hI;refine rC 4 hA ?_;clear hA a;refine u1 0 (aa rfl j3) ?_;refine u1 0 (ld rfl l5) ?_;refine u1 0 (ar rfl db) ?_;refine aR 0 0 (aw rfl rfl) ?_ ?_
     ·intro h32;obtain⟨x,hx⟩:∃x,rs[i]?=some x:=⟨_,List.getElem?_eq_getElem (by omega)⟩;obtain⟨ra_p,rfl⟩:∃q,ra=some q:=(hrt.sat hS).av (by omega);have hxo:=hre x (List.mem_of_getElem? hx);obtain⟨hxv,_⟩:=hrb.get hx;have hxc:=((fv hs.rv hrs).get hx).2;refine uO 9 ?_;intro a hA;refine fj (l1:=[_,_,_,_,_,_,_,_]) (l2:=[_]) rfl (by kernel_rfl) (by kernel_rfl) ?_;replace hS:=hS.drew;refine T1 0 hA (aa (hA.ev rfl) j3) ?_;clear hA a
      refine eO 1 (ld rfl l5) ?_;refine eO 0 (aj rfl rfl db bT (by omega) (by omega)) ?_;refine eO 0 (aA rfl bM) ?_;refine eO 0 (ad (cs:=[.slice x.p.va x.p.d.vec.length x.p.vc,.slice x.p.ca x.p.d.ab.length x.p.cc]) rfl a6 aC (fun j u e=>kV (hrt.sat hS) (cR hx _ u (oh x j u e)))) ?_;refine eO 0 (aa rfl l9) ?_;refine eO 0 (ad (cs:=[_,_]) rfl a6 aC (by exact hS.ag (xs:=[_,_]) rfl)) ?_;intro a hA;refine wpStill_nil ?_;refine yk hA rfl Ha rfl (pa _ x.p p (hxo.sat hS) (hpp.sat hS) (by omega) (by omega)) ?_;clear hA a;rintro e w ⟨rfl,hT⟩;replace hS:Sat _ _ _:=hS.ai hT;clear hT;generalize h43:(ck x.p.d p.d)=bb;cases bb
      ·refine⟨_,rfl,?_⟩;refine uO 11 ?_;intro a hA;refine wp_loop_ghost (fun (mm:Nat) a w=>∃(j:Nat),Ag a 62 [(1,.pointer (some ⟨b1,0,none⟩)),(3,.int .i64 ((i:Nat):Int)),(4,.int .i64 ((j:Nat):Int))]∧Sat W w ([a8 b1 (.cells #[.slice ea es.length ec,.slice p.va p.d.vec.length p.vc,.slice p.ca p.d.ab.length p.cc,.slice (some ra_p) rs.length rc] 70)])∧(j≤es.length)∧((es.take j).all (fun e2=>!gZ x.d e2)=true)∧mm=es.length-j) es.length ?_ ?_
       ·replace hA:=hA.kp [1,3,4] rfl;exact⟨0,hA,hS,(by omega),(by rfl),by omega⟩
       intro m a w hI;clear hS hA;obtain⟨j,hA,hS,hj,hcv,rfl⟩:=hI;refine rC 4 hA ?_;clear hA a;refine u1 0 (aa rfl jV) ?_;refine u1 0 (ld rfl ma) ?_;refine u1 0 (ar rfl bA) ?_;refine aR 0 0 (aw rfl rfl) ?_ ?_
       ·intro h48;refine uO 8 ?_;intro a hA;refine fj (l1:=[_,_,_,_,_,_,_,_,_,_]) (l2:=[_]) rfl (by kernel_rfl) (by kernel_rfl) ?_;replace hS:=hS.drew;refine T1 0 hA (aa (hA.ev rfl) j3) ?_;clear hA a;refine eO 1 (ld rfl l5) ?_;refine eO 0 (aj rfl rfl db bT (by omega) (by omega)) ?_;refine eO 0 (ad (cs:=iX x) rfl gI bT (fun j u e=>bJ (hrt.sat hS) (cR hx j u e))) ?_;refine eO 0 (aa rfl jV) ?_;refine eO 1 (ld rfl ma) ?_;obtain⟨ea_p,rfl⟩:∃q,ea=some q:=(he.sat hS).av (by omega);obtain⟨y,hy⟩:∃zz_,es[j]?=some zz_:=⟨_,List.getElem?_eq_getElem (by omega)⟩;refine eO 0 (aj rfl rfl bA cX (by omega) (by omega)) ?_;refine eO 0 (ad (cs:=mC y) rfl ml cX (fun j u e=>bJ (he.sat hS) (cP hy j u e))) ?_;intro a hA;refine wpStill_nil ?_
        refine yk hA rfl J4 rfl (vz _ x y (hxo.sat hS) hxv (by omega)) ?_;clear hA a;rintro e w ⟨rfl,hT⟩;replace hS:Sat _ _ _:=hS.ai hT;clear hT;generalize h61:(gZ x.d y)=bb;cases bb
        ·refine⟨_,rfl,?_⟩;refine uO 8 ?_;refine u1 2 (ah rfl rfl (by omega) (by omega)) ?_;intro a hA;replace hA:=hA.kp [1,3,4] rfl;exact⟨es.length-(j+1),by omega,j+1,hA,hS,by omega,by rw[zu hy,hcv,h61];rfl,rfl⟩
        ·refine⟨_,rfl,?_⟩;refine uO 18 ?_;refine aX ?_;refine⟨?_,hS.nil⟩;unfold bH aH SL.d jq.d;dsimp only;rw[h7,h12,h18,←hq,show ck q.d p.d=true from by simpa using h27,tn,Bc (bR hx) (show (!ck x.d.bF p.d && es.all fun e2=>!gZ x.d e2)=false from by rw[Bc hy (by rw[h61];rfl)];simp)];rfl
       ·intro h48;refine uO 11 ?_;refine u1 2 (ah rfl rfl (by omega) (by omega)) ?_;intro a hA;replace hA:=hA.kp [1,3] rfl;rw[List.take_of_length_le (by omega)]at hcv;exact⟨rs.length-(i+1),by omega,i+1,hA,hS,by omega,by rw[zu (bR hx),hw,show ck x.d.bF p.d=false from h43,hcv];rfl,rfl⟩
      ·refine⟨_,rfl,?_⟩;refine uO 15 ?_;refine aX ?_;refine⟨?_,hS.nil⟩;unfold bH aH SL.d jq.d;dsimp only;rw[h7,h12,h18,←hq,show ck q.d p.d=true from by simpa using h27,tn,Bc (bR hx) (show (!ck x.d.bF p.d && _)=false from by rw[show ck x.d.bF p.d=true from h43];rfl)];rfl
     ·intro h32;refine uO 8 ?_;intro a hA;replace hA:=hA.kp [] rfl;refine rC 6 hA ?_;clear hA a;refine aX ?_;obtain rfl:i=rs.length:=by omega
      rw[List.take_of_length_le (by simp)]at hw;refine⟨?_,hS.nil⟩;unfold bH aH SL.d jq.d;dsimp only;rw[h7,h12,h18,←hq,show ck q.d p.d=true from by simpa using h27,tn,hw];rfl
theorem vE (W:World)(s:SL)(hp:s.ok W)(hs:jY s):Calls Tryz.prog 143 #[.agg #[.slice s.e.a s.e.es.length s.e.c,.slice s.p.va s.p.d.vec.length s.p.vc,.slice s.p.ca s.p.d.ab.length s.p.cc,.slice s.r.a s.r.rs.length s.r.c]] W fun e w'=>e=.returned (.int .i64 (if bH s.d=true then 0 else 1))∧Sat W w' []:=by
 refine enter Tryz.func143 rfl rfl rfl (.cons (i:=0) rfl .nil) ?_;have hS:=Sat.start W;refine uC 2 ?_;refine uB rfl hS ?_;clear hS;intro b1 w hS;refine uO 6 ?_;refine u1 0 (ad (cs:=[_,_,_,_]) rfl mq gM (by exact hS.ag (xs:=[_,_,_,_]) rfl)) ?_;refine uF Jl rfl (w3 _ s (hp.sat hS) hs) ?_;rintro e w ⟨rfl,hT⟩;replace hS:Sat _ _ _:=hS.ai hT;clear hT;generalize h4:(bH s.d)=bb;cases bb
 ·refine⟨_,rfl,?_⟩;refine uO 11 ?_;refine aX ?_;exact⟨by simp[h4],hS.nil⟩
 ·refine⟨_,rfl,?_⟩;refine uO 10 ?_;refine aX ?_;exact⟨by simp[h4],hS.nil⟩
theorem yF (W:World)(A:Option Addr)(c:Nat)(xs:List aV)(B:Option Addr)(d:Nat)(ys:List aV)(hX:fI W A c xs)(hY:fI W B d ys)(hl1:xs.length≤1000000000000)(hl2:ys.length≤1000000000000):Calls Tryz.prog 105 #[.slice A (xs).length c,.slice B (ys).length d] W fun e w'=>e=.returned (.bool (decide (xs=ys)))∧Sat W w' []:=by
 refine enter Tryz.func105 rfl rfl rfl (.cons (i:=0) rfl (.cons (i:=1) rfl .nil)) ?_;have hS:=Sat.start W;refine uC 9 ?_;refine u1 1 (ar rfl bA) ?_;refine u1 0 (ar rfl bA) ?_;refine aR 0 0 (aK rfl rfl) ?_ ?_
 ·intro h10;refine uO 10 ?_;refine aX ?_;refine⟨?_,hS⟩;rw[decide_eq_false];intro h;rw[h]at h10;omega
 ·intro h10;refine uO 12 ?_;intro a hA;refine wp_loop_ghost (fun (mm:Nat) a w=>∃(i:Nat),Ag a 26 [(0,.slice A (xs).length c),(1,.slice B (ys).length d),(5,.int .i64 ((i:Nat):Int))]∧Sat W w ([])∧(i≤xs.length)∧(xs.take i=ys.take i)∧mm=xs.length-i) xs.length ?_ ?_
  ·replace hA:=hA.kp [0,1,5] rfl;exact⟨0,hA,hS,(by omega),(by rfl),by omega⟩
  intro m a w hI;clear hS hA;obtain⟨i,hA,hS,hi,he,rfl⟩:=hI;refine rC 5 hA ?_;clear hA a;refine u1 0 (ar rfl bA) ?_;refine aR 0 0 (aw rfl rfl) ?_ ?_
  ·intro h14;refine uO 8 ?_;intro a hA;refine cF (fun w'=>Sat _ w' _) (by kernel_rfl) (by kernel_rfl) hS.drew ?_;refine rQ 2 hA ?_;clear hA a;obtain⟨A_p,rfl⟩:∃q,A=some q:=(hX.sat hS).av (by omega);obtain⟨x,hx⟩:∃zz_,xs[i]?=some zz_:=⟨_,List.getElem?_eq_getElem (by omega)⟩;refine br 0 (fun w hS=>(aj rfl rfl bA cX (by omega) (by omega))) ?_;refine br 2 (fun w hS=>(ad (cs:=mC x) rfl ml cX (fun j u e=>bJ (hX.sat hS) (cP hx j u e)))) ?_;obtain⟨B_p,rfl⟩:∃q,B=some q:=(hY.sat hS).av (by omega);obtain⟨y,hy⟩:∃zz_,ys[i]?=some zz_:=⟨_,List.getElem?_eq_getElem (by omega)⟩;refine br 0 (fun w hS=>(aj rfl rfl bA cX (by omega) (by omega))) ?_;refine br 0 (fun w hS=>(ad (cs:=mC y) rfl ml cX (fun j u e=>bJ (hY.sat hS) (cP hy j u e)))) ?_;intro a hA
   refine K.se hA rfl rfl rfl (fun w hS=>(xk (hA.ev rfl) (hA.ev rfl) JS JK)) ?_ ?_
   ·clear hA a;intro h25;intro a hA;refine wpQuiet_nil ?_;clear hS;intro w hS;refine rE 13 hA ?_;clear hA a;refine aX ?_;refine⟨?_,hS⟩;rw[decide_eq_false];intro h;subst h;rw[hx]at hy;cases hy;simp at h25
   ·clear hA a;intro h25;intro a hA;refine wpQuiet_nil ?_;clear hS;intro w hS;refine rE 7 hA ?_;clear hA a;refine u1 2 (ah rfl rfl (by omega) (by omega)) ?_;intro a hA;replace hA:=hA.kp [0,1,5] rfl;exact⟨xs.length-(i+1),by omega,i+1,hA,hS,by omega,by rw[aD hx,aD hy,he,show x=y from by cases x;cases y;simpa[and_assoc]using h25],rfl⟩
  ·intro h14;refine uO 8 ?_;intro a hA;replace hA:=hA.kp [] rfl;refine rC 6 hA ?_;clear hA a;refine aX ?_;rw[List.take_of_length_le (by omega),List.take_of_length_le (by omega)]at he;refine⟨?_,hS⟩;rw[decide_eq_true he]
end Go.Proofs.YtkjabaihpkbfhaaGreat.Wk
