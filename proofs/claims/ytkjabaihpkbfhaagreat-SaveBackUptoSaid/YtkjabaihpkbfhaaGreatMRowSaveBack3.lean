/- Texts of our own that a row leans on, put together. No condition of their own. -/
import Derived.Test.YtkjabaihpkbfhaaGreatMRowSaveBack2
set_option linter.unusedVariables false
set_option linter.unusedSimpArgs false
set_option maxRecDepth 100000
set_option maxHeartbeats 2000000
namespace Go.Proofs.YtkjabaihpkbfhaaGreat.Wk
open Go Go.RowKit Go.Proofs.YtkjabaihpkbfhaaGreat Go.Proofs.YtkjabaihpkbfhaaGreat.K Go.Proofs.YtkjabaihpkbfhaaGreat.T
theorem nk (W:World)(s:SL)(hp:s.ok W)(hs:kK s):Calls Tryz.prog 343 #[.agg #[.slice s.e.a s.e.es.length s.e.c,.slice s.p.va s.p.d.vec.length s.p.vc,.slice s.p.ca s.p.d.ad.length s.p.cc,.slice s.r.a s.r.rs.length s.r.c]] W fun e w'=>e=.returned (.int .i64 (if bL s.d=true then 0 else 1))∧Sat W w' []:=by
 refine enter Tryz.func343 rfl rfl rfl (.cons (i:=0) rfl .nil) ?_;have hS:=Sat.start W;obtain⟨⟨ea,ec,es⟩,p,⟨ra,rc,rs⟩⟩:=s;have he:iz W ea ec es:=hp.e;have hpp:p.ok W:=hp.p;have hrt:gz W ra rc rs:=hp.r.top;have hre:∀r∈rs,r.p.ok W:=hp.r.each;have hel:es.length≤16777216:=hs.es;have hpv:p.d.vec.length≤1000000000000:=hs.pv;have hpc:p.d.ad.length≤16777216:=hs.pc;have hrs:cm (rs.map fun r=>r.p.d)≤16777216:=hs.rs;have hrb:du 10000000000 rs:=(ic hs.rv hrs).mono (by decide);have hrl:=mE hrs;refine uC 2 ?_;refine uB rfl hS ?_;clear hS;intro b1 w hS;refine uO 6 ?_;refine u1 0 (aa rfl mx) ?_;refine u1 0 (ld rfl nb) ?_;refine uF sl rfl (eJ _ ea ec es (he.sat hS) (by omega)) ?_;rintro e w ⟨rfl,hT⟩;replace hS:Sat _ _ _:=hS.ah hT;clear hT;refine⟨_,rfl,?_⟩;refine ba 0 0 (aD rfl rfl) ?_ ?_
 ·intro h12;refine uO 22 ?_;refine bt ?_;refine⟨?_,hS.nil⟩;unfold bL aK SL.d jq.d;dsimp only;rw[show cO es=false from by simpa using h12];rfl
 ·intro h12;refine uO 1 ?_;refine u1 0 (aa rfl oH) ?_;refine u1 0 (ag (cs:=[_,_]) rfl bj aC (by exact hS.ab (xs:=[_,_]) rfl)) ?_;intro a hA;refine eZ hA (ar hA rfl rfl rfl) rfl re rfl (dJ _ p (hpp.sat hS) (by omega) hpv) ?_;clear hA a;rintro e w ⟨rfl,hT⟩;replace hS:Sat _ _ _:=hS.ah hT;clear hT;generalize h16:(bK p.d)=bb;cases bb
  ·refine⟨_,rfl,?_⟩;refine u1 17 (aR rfl) ?_;refine bt ?_;refine⟨?_,hS.nil⟩;unfold bL aK SL.d jq.d;dsimp only;rw[show cO es=true from by simpa using h12,h16];rfl
  ·refine⟨_,rfl,?_⟩;refine u1 2 (aR rfl) ?_;refine u1 0 (aa rfl mG) ?_;refine u1 0 (ld rfl nU) ?_;intro a hA;refine eZ hA (ar hA rfl rfl rfl) rfl qc rfl (dM _ ra rc rs (hrt.sat hS) (fun r h=>(hre r h).sat hS) hrb (by omega)) ?_;clear hA a;rintro e w ⟨rfl,hT⟩;replace hS:Sat _ _ _:=hS.ah hT;clear hT;refine⟨_,rfl,?_⟩;refine ba 0 0 (aD rfl rfl) ?_ ?_
   ·intro h23;refine uO 11 ?_;refine bt ?_;refine⟨?_,hS.nil⟩;unfold bL aK SL.d jq.d;dsimp only;rw[show cO es=true from by simpa using h12,h16,show df (rs.map RL.d)=false from by simpa using h23];rfl
   ·intro h23;refine uO 9 ?_;refine u1 0 (aa rfl mx) ?_;refine u1 0 (ld rfl nb) ?_;refine uF EV rfl (tY _ ea ec es (he.sat hS) (by omega) (by simpa using h12)) ?_;rintro e w ⟨q,rfl,hq,hT⟩;have hql:=zx es;rw[←hq]at hql;have hqv:=AH es;rw[←hq]at hqv;replace hS:Sat _ _ (_::_::_):=hS.ah hT;clear hT;refine⟨_,rfl,?_⟩;refine uO 1 ?_;refine u1 0 (ak rfl rfl) ?_;refine u1 0 (ak rfl rfl) ?_;refine uN db hS ?_;clear hS;intro b3 w hS;refine uW (vs:=[_,_]) (cs':=[_,_]) rfl rfl aC hS ?_;clear hS;intro w hS;refine uO 5 ?_;refine u1 0 (ag (cs:=[_,_]) rfl bj aC (by exact hS.ab (xs:=[_,_]) rfl)) ?_;refine u1 0 (aa rfl oH) ?_;refine u1 0 (ag (cs:=[_,_]) rfl bj aC (by exact (hS.p 3).ab (xs:=[_,_]) rfl)) ?_
    refine uF CV rfl (mi _ q p ⟨(hS.p 1).rd,(hS.p 2).rd⟩ (hpp.sat hS) (by omega) (by omega)) ?_;rintro e w ⟨rfl,hT⟩;replace hS:Sat _ _ _:=hS.ah hT;clear hT;generalize h34:(c4 q.d p.d)=bb;cases bb
    ·refine⟨_,rfl,?_⟩;refine u1 2 (aR rfl) ?_;intro a hA;replace hA:=hA.kp [1,2,35] rfl;refine rC 8 hA ?_;clear hA a;refine bt ?_;refine⟨?_,hS.nil⟩;unfold bL aK SL.d jq.d;dsimp only;rw[show cO es=true from by simpa using h12,h16,show df (rs.map RL.d)=true from by simpa using h23,←hq,h34];simp
    ·refine⟨_,rfl,?_⟩;refine u1 2 (aR rfl) ?_;intro a hA;replace hA:=hA.kp [1,2,35] rfl;refine rC 6 hA ?_;clear hA a;refine u1 0 (aa rfl mG) ?_;refine u1 0 (ld rfl nU) ?_;refine u1 0 (aa rfl oH) ?_;refine u1 0 (ag (cs:=[_,_]) rfl bj aC (by exact (hS.p 3).ab (xs:=[_,_]) rfl)) ?_;refine uF FN rfl (vI _ ra rc rs p (hrt.sat hS) (fun r h=>(hre r h).sat hS) hrb (by omega) (hpp.sat hS) hpv (by omega) (by simpa using h23) h16) ?_;rintro e w ⟨z,rfl,hz,hT⟩;replace hS:=hS.ay hT;clear hT;refine⟨_,rfl,?_⟩;refine uO 1 ?_;refine u1 0 (ak rfl rfl) ?_;refine u1 7 (ak rfl rfl) ?_;refine u1 0 (au rfl cW) ?_;refine u1 0 (aa rfl mG) ?_;refine u1 0 (ld rfl nU) ?_;refine u1 0 (au rfl cW) ?_;refine ba 0 0 (aD rfl rfl) ?_ ?_
     ·intro h49;intro a hA;dsimp only at h49;refine rO 10 hA ?_;clear hA a;refine bt ?_;refine⟨?_,hS.nil⟩;unfold bL aK SL.d jq.d;dsimp only
      rw[show cO es=true from by simpa using h12,h16,show df (rs.map RL.d)=true from by simpa using h23,←hq,h34,show ((rs.map RL.d).all fun r=>!c4 r.a8 p.d)=false from by
       rw[Bool.eq_false_iff,ne_eq,←all_filter];have hl:=congrArg List.length hz;rw[show z.d.length=z.rs.length from by simp[jq.d]]at hl;rw[←hl,List.length_map];omega];simp
     ·intro h49;intro a hA;dsimp only at h49;refine rO 8 hA ?_;clear hA a;refine u1 0 (aa rfl mx) ?_;refine u1 0 (ld rfl nb) ?_;refine u1 0 (aa rfl mG) ?_;refine u1 0 (ld rfl nU) ?_;refine uF EI rfl (u4 _ ea ec es ra rc rs (he.sat hS) (by omega) (by simpa using h12) (hrt.sat hS) (fun r h=>(hre r h).sat hS) hrb (by omega) hrs (by simpa using h23)) ?_;rintro e w ⟨A55,c55,rfl,hT⟩;replace hS:=hS.ay hT;clear hT;refine⟨_,rfl,?_⟩;refine uO 1 ?_;refine u1 0 (ak rfl rfl) ?_;refine u1 4 (ak rfl rfl) ?_;intro a hA;replace hA:=hA.kp [1,2,7] rfl;refine rC 3 hA ?_;clear hA a;refine u1 0 (au rfl bz) ?_;refine u1 0 (aa rfl mx) ?_;refine u1 0 (ld rfl nb) ?_;refine u1 0 (au rfl bz) ?_;refine ba 0 0 (aD rfl rfl) ?_ ?_
      ·intro h63;intro a hA;dsimp only at h63;refine rO 10 hA ?_;clear hA a;refine bt ?_;refine⟨?_,hS.nil⟩;unfold bL aK SL.d jq.d;dsimp only
       rw[show cO es=true from by simpa using h12,h16,show df (rs.map RL.d)=true from by simpa using h23,←hq,h34,show ((rs.map RL.d).all fun r=>!c4 r.a8 p.d)=true from by
        rw[←all_filter];have hl:=congrArg List.length hz;rw[show z.d.length=z.rs.length from by simp[jq.d]]at hl;rw[←hl,List.length_map];omega,show (es.all fun e=>!bh (rs.map RL.d) e)=false from by
        rw[Bool.eq_false_iff,ne_eq,←all_filter];omega];rfl
      ·intro h63;intro a hA;dsimp only at h63;refine rO 11 hA ?_;clear hA a;refine bt ?_;refine⟨?_,hS.nil⟩;unfold bL aK SL.d jq.d;dsimp only
       rw[show cO es=true from by simpa using h12,h16,show df (rs.map RL.d)=true from by simpa using h23,←hq,h34,show ((rs.map RL.d).all fun r=>!c4 r.a8 p.d)=true from by
        rw[←all_filter];have hl:=congrArg List.length hz;rw[show z.d.length=z.rs.length from by simp[jq.d]]at hl;rw[←hl,List.length_map];omega,show (es.all fun e=>!bh (rs.map RL.d) e)=true from by
        rw[←all_filter];omega];rfl
theorem uy (W:World)(A:Option Addr)(c:Nat)(xs:List aM)(B:Option Addr)(d:Nat)(ys:List aM)(hX:iz W A c xs)(hY:iz W B d ys)(hl1:xs.length≤1000000000000)(hl2:ys.length≤1000000000000):Calls Tryz.prog 105 #[.slice A (xs).length c,.slice B (ys).length d] W fun e w'=>e=.returned (.bool (decide (xs=ys)))∧Sat W w' []:=by
 refine enter Tryz.func105 rfl rfl rfl (.cons (i:=0) rfl (.cons (i:=1) rfl .nil)) ?_;have hS:=Sat.start W;refine uC 9 ?_;refine u1 1 (au rfl bz) ?_;refine u1 0 (au rfl bz) ?_;refine ba 0 0 (aD rfl rfl) ?_ ?_
 ·intro h10;refine uO 10 ?_;refine bt ?_;refine⟨?_,hS⟩;rw[decide_eq_false];intro h;rw[h]at h10;omega
 ·intro h10;refine uO 12 ?_;intro a hA;refine wp_loop_ghost (fun (mm:Nat) a w=>∃(i:Nat),Ag a 26 [(0,.slice A (xs).length c),(1,.slice B (ys).length d),(5,.int .i64 ((i:Nat):Int))]∧Sat W w ([])∧(i≤xs.length)∧(xs.take i=ys.take i)∧mm=xs.length-i) xs.length ?_ ?_
  ·replace hA:=hA.kp [0,1,5] rfl;exact⟨0,hA,hS,(by omega),(by rfl),by omega⟩
  intro m a w hI;clear hS hA;obtain⟨i,hA,hS,hi,he,rfl⟩:=hI;refine rC 5 hA ?_;clear hA a;refine u1 0 (au rfl bz) ?_;refine ba 0 0 (aA rfl rfl) ?_ ?_
  ·intro h14;refine uO 8 ?_;intro a hA;refine cZ (fun w'=>Sat _ w' _) (by kernel_rfl) (by kernel_rfl) hS.drew ?_;refine rQ 2 hA ?_;clear hA a;obtain⟨A_p,rfl⟩:∃q,A=some q:=(hX.sat hS).aw (by omega);obtain⟨x,hx⟩:∃zz_,xs[i]?=some zz_:=⟨_,List.getElem?_eq_getElem (by omega)⟩;refine bC 0 (fun w hS=>(an rfl rfl bz fg (by omega) (by omega))) ?_;refine bC 2 (fun w hS=>(ag (cs:=mH x) rfl lX fg (fun j u e=>bS (hX.sat hS) (j1 hx j u e)))) ?_;obtain⟨B_p,rfl⟩:∃q,B=some q:=(hY.sat hS).aw (by omega);obtain⟨y,hy⟩:∃zz_,ys[i]?=some zz_:=⟨_,List.getElem?_eq_getElem (by omega)⟩;refine bC 0 (fun w hS=>(an rfl rfl bz fg (by omega) (by omega))) ?_;refine bC 0 (fun w hS=>(ag (cs:=mH y) rfl lX fg (fun j u e=>bS (hY.sat hS) (j1 hy j u e)))) ?_;intro a hA
   refine K.sq hA rfl rfl rfl (fun w hS=>(tU (hA.ev rfl) (hA.ev rfl) FX Ep)) ?_ ?_
   ·clear hA a;intro h25;intro a hA;refine wpQuiet_nil ?_;clear hS;intro w hS;refine rE 13 hA ?_;clear hA a;refine bt ?_;refine⟨?_,hS⟩;rw[decide_eq_false];intro h;subst h;rw[hx]at hy;cases hy;simp at h25
   ·clear hA a;intro h25;intro a hA;refine wpQuiet_nil ?_;clear hS;intro w hS;refine rE 7 hA ?_;clear hA a;refine u1 2 (aj rfl rfl (by omega) (by omega)) ?_;intro a hA;replace hA:=hA.kp [0,1,5] rfl;exact⟨xs.length-(i+1),by omega,i+1,hA,hS,by omega,by rw[aP hx,aP hy,he,show x=y from by cases x;cases y;simpa[and_assoc]using h25],rfl⟩
  ·intro h14;refine uO 8 ?_;intro a hA;replace hA:=hA.kp [] rfl;refine rC 6 hA ?_;clear hA a;refine bt ?_;rw[List.take_of_length_le (by omega),List.take_of_length_le (by omega)]at he;refine⟨?_,hS⟩;rw[decide_eq_true he]
theorem nu (W:World)(A:Option Addr)(c:Nat)(rs:List RL)(B:Option Addr)(d:Nat)(ts:List RL)(hX:gz W A c rs)(hY:gz W B d ts)(hEx:∀r∈rs,r.p.ok W)(hEy:∀r∈ts,r.p.ok W)(hBx:du 10000000000 rs)(hBy:du 10000000000 ts)(hl1:rs.length≤1000000000000)(hl2:ts.length≤1000000000000):Calls Tryz.prog 107 #[.slice A (rs).length c,.slice B (ts).length d] W fun e w'=>e=.returned (.bool (decide (rs.map RL.d=ts.map RL.d)))∧Sat W w' []:=by
 refine enter Tryz.func107 rfl rfl rfl (.cons (i:=0) rfl (.cons (i:=1) rfl .nil)) ?_;have hS:=Sat.start W;refine uC 9 ?_;refine u1 1 (au rfl cW) ?_;refine u1 0 (au rfl cW) ?_;refine ba 0 0 (aD rfl rfl) ?_ ?_
 ·intro h10;refine uO 10 ?_;refine bt ?_;refine⟨?_,hS⟩;rw[decide_eq_false];intro h;have:=congrArg List.length h;simp at this;omega
 ·intro h10;refine uO 12 ?_;intro a hA;refine wp_loop_ghost (fun (mm:Nat) a w=>∃(i:Nat),Ag a 42 [(0,.slice A (rs).length c),(1,.slice B (ts).length d),(5,.int .i64 ((i:Nat):Int))]∧Sat W w ([])∧(i≤rs.length)∧((rs.map RL.d).take i=(ts.map RL.d).take i)∧mm=rs.length-i) rs.length ?_ ?_
  ·replace hA:=hA.kp [0,1,5] rfl;exact⟨0,hA,hS,(by omega),(by rfl),by omega⟩
  intro m a w hI;clear hS hA;obtain⟨i,hA,hS,hi,he,rfl⟩:=hI;refine rC 5 hA ?_;clear hA a;refine u1 0 (au rfl cW) ?_;refine ba 0 0 (aA rfl rfl) ?_ ?_
  ·intro h14;refine uO 8 ?_;intro a hA;refine bB [22] hS (by kernel_rfl) ?_;replace hS:=hS.drew;refine rX [0,1] hA ?_;clear hA a;obtain⟨A_p,rfl⟩:∃q,A=some q:=(hX.sat hS).aw (by omega);obtain⟨x,hx⟩:∃zz_,rs[i]?=some zz_:=⟨_,List.getElem?_eq_getElem (by omega)⟩;have hxo:=hEx x (List.mem_of_getElem? hx);obtain⟨hxv,hxc⟩:=hBx.get hx;refine bF 2 [] rfl (fun w=>(an rfl rfl cW bU (by omega) (by omega))) ?_;refine bF 3 [] rfl (fun w=>(aJ rfl dk)) ?_;refine dH 4 [5,6] rfl (by exact⟨[],hS⟩) (fun w hT=>have hS:=hT.sat;(av rfl rZ (bS (hX.sat hS) (dy hx 0 _ rfl)))) ?_;obtain⟨B_p,rfl⟩:∃q,B=some q:=(hY.sat hS).aw (by omega);obtain⟨y,hy⟩:∃zz_,ts[i]?=some zz_:=⟨_,List.getElem?_eq_getElem (by omega)⟩;have hyo:=hEy y (List.mem_of_getElem? hy);obtain⟨hyv,hyc⟩:=hBy.get hy
   refine bF 7 [] rfl (fun w=>(an rfl rfl cW bU (by omega) (by omega))) ?_;refine bF 8 [] rfl (fun w=>(aJ rfl dk)) ?_;refine dH 9 [] rfl (by exact⟨[],hS⟩) (fun w hT=>have hS:=hT.sat;(av rfl rZ (bS (hY.sat hS) (dy hy 0 _ rfl)))) ?_;intro a hA;refine K.EX 10 hA pk rfl rfl rfl rfl (by kernel_rfl) (by kernel_rfl) (by kernel_rfl) (fun w=>(zA (hA.ev rfl) (hA.ev rfl))) ?_ ?_
   ·clear hA a;intro h27;refine uX [11,12,13,14,15,16,17,18,19,20,21,22,23,24] ?_;intro a hA;refine ai (by kernel_rfl) ?_ _;refine rE 13 hA ?_;clear hA a;refine bt ?_;refine⟨?_,hS⟩;rw[decide_eq_false];intro h;have h1:=dF hx;rw[h,dF hy]at h1
    injection h1 with h1
    exact h27 (congrArg br.cg h1.symm)
   ·clear hA a;intro h27;refine uX [11,12,13] ?_;refine bF 14 [] rfl (fun w=>(an rfl rfl cW bU (by omega) (by omega))) ?_;refine bF 15 [] rfl (fun w=>(aJ rfl cd)) ?_;refine dH 16 [17,18] rfl (by exact⟨[],hS⟩) (fun w hT=>have hS:=hT.sat;(ag (cs:=[.slice x.p.va x.p.d.vec.length x.p.vc,.slice x.p.ca x.p.d.ad.length x.p.cc]) rfl bj aC (fun j u e=>pj (hX.sat hS) (dy hx _ u (qp x j u e))))) ?_;refine bF 19 [] rfl (fun w=>(an rfl rfl cW bU (by omega) (by omega))) ?_;refine bF 20 [] rfl (fun w=>(aJ rfl cd)) ?_;refine dH 21 [] rfl (by exact⟨[],hS⟩) (fun w hT=>have hS:=hT.sat;(ag (cs:=[.slice y.p.va y.p.d.vec.length y.p.vc,.slice y.p.ca y.p.d.ad.length y.p.cc]) rfl bj aC (fun j u e=>pj (hY.sat hS) (dy hy _ u (qp y j u e))))) ?_;intro a hA;refine aG 22 (by kernel_rfl) ?_
    refine DJ hA rfl (ar hA rfl rfl rfl) rfl Cq rfl (rj _ x.p y.p (hxo.sat hS) (hyo.sat hS) hxv (by omega) hyv (by omega)) ?_;clear hA a;rintro e w ⟨rfl,hT⟩;replace hS:Sat _ _ _:=hS.ah hT;clear hT;refine⟨_,rfl,?_⟩;intro a hA;refine⟨.inl rfl,?_⟩;refine K.DB 23 hA pk rfl (ar hA rfl rfl rfl) rfl rfl (by kernel_rfl) (by kernel_rfl) (by kernel_rfl) (fun w=>(aR (hA.ev rfl))) ?_ ?_
    ·clear hA a;intro h40;intro a hA;simp only[decide_eq_decide,decide_eq_true_eq,decide_eq_false_iff_not,Bool.not_eq_true',Bool.not_eq_false',bne_iff_ne,ne_eq,beq_iff_eq,Bool.not_eq_true,Bool.not_eq_false]at h40;refine rX [24] hA ?_;clear hA a;intro a hA;refine ai (by kernel_rfl) ?_ _;refine rE 13 hA ?_;clear hA a;refine bt ?_;refine⟨?_,hS⟩;rw[decide_eq_false];intro h;have h1:=dF hx;rw[h,dF hy]at h1
     injection h1 with h1
     have h2:x.p.d=y.p.d:=congrArg br.a8 h1.symm;simp[h2]at h40
    ·clear hA a;intro h40;intro a hA;simp only[decide_eq_decide,decide_eq_true_eq,decide_eq_false_iff_not,Bool.not_eq_true',Bool.not_eq_false',bne_iff_ne,ne_eq,beq_iff_eq,Bool.not_eq_true,Bool.not_eq_false]at h40;refine rX [24] hA ?_;clear hA a;intro a hA;refine ai (by kernel_rfl) ?_ _;refine rE 7 hA ?_;clear hA a;refine u1 2 (aj rfl rfl (by omega) (by omega)) ?_;intro a hA;replace hA:=hA.kp [0,1,5] rfl;have hxy:x.d=y.d:=Dm (Classical.not_not.1 h27) (by simpa using h40);exact⟨rs.length-(i+1),by omega,i+1,hA,hS,by omega,by rw[aP (dF hx),aP (dF hy),he,hxy],rfl⟩
  ·intro h14;refine uO 8 ?_;intro a hA;replace hA:=hA.kp [] rfl;refine rC 6 hA ?_;clear hA a;refine bt ?_;rw[List.take_of_length_le (by simp;omega),List.take_of_length_le (by simp;omega)]at he;refine⟨?_,hS⟩;rw[decide_eq_true he]
theorem l7 (W:World)(s t:SL)(hp:s.ok W)(hs:kK s)(gp:t.ok W)(gs:kK t):Calls Tryz.prog 50 #[.agg #[.slice s.e.a s.e.es.length s.e.c,.slice s.p.va s.p.d.vec.length s.p.vc,.slice s.p.ca s.p.d.ad.length s.p.cc,.slice s.r.a s.r.rs.length s.r.c],.agg #[.slice t.e.a t.e.es.length t.e.c,.slice t.p.va t.p.d.vec.length t.p.vc,.slice t.p.ca t.p.d.ad.length t.p.cc,.slice t.r.a t.r.rs.length t.r.c]] W fun e w'=>e=.returned (.bool (decide (s.d=t.d)))∧Sat W w' []:=by
 refine enter Tryz.func50 rfl rfl rfl (.cons (i:=0) rfl (.cons (i:=1) rfl .nil)) ?_;have hS:=Sat.start W;obtain⟨⟨ea,ec,es⟩,p,⟨ra,rc,rs⟩⟩:=s;have he:iz W ea ec es:=hp.e;have hpp:p.ok W:=hp.p;have hrt:gz W ra rc rs:=hp.r.top;have hre:∀r∈rs,r.p.ok W:=hp.r.each;have hel:es.length≤16777216:=hs.es;have hpv:p.d.vec.length≤1000000000000:=hs.pv;have hpc:p.d.ad.length≤16777216:=hs.pc;have hrs:cm (rs.map fun r=>r.p.d)≤16777216:=hs.rs;have hrb:du 10000000000 rs:=(ic hs.rv hrs).mono (by decide);have hrl:=mE hrs;obtain⟨⟨fa,fc,fs⟩,q,⟨ta,tc,ts⟩⟩:=t;have ge:iz W fa fc fs:=gp.e;have gpp:q.ok W:=gp.p;have grt:gz W ta tc ts:=gp.r.top;have gre:∀r∈ts,r.p.ok W:=gp.r.each;have gel:fs.length≤16777216:=gs.es;have gpv:q.d.vec.length≤1000000000000:=gs.pv;have gpc:q.d.ad.length≤16777216:=gs.pc;have grs:cm (ts.map fun r=>r.p.d)≤16777216:=gs.rs
 have grb:du 10000000000 ts:=(ic gs.rv grs).mono (by decide);have grl:=mE grs;refine uC 2 ?_;refine uB rfl hS ?_;clear hS;intro b2 w hS;refine uB rfl hS ?_;clear hS;intro b3 w hS;refine uO 5 ?_;refine u1 0 (aa rfl s4) ?_;refine u1 0 (ld rfl nb) ?_;refine u1 0 (aa rfl s4) ?_;refine u1 0 (ld rfl nb) ?_;refine uF FO rfl (uy _ ea ec es fa fc fs (he.sat hS) (ge.sat hS) (by omega) (by omega)) ?_;rintro e w ⟨rfl,hT⟩;replace hS:Sat _ _ _:=hS.ah hT;clear hT;generalize h9:(decide (es=fs))=bb;cases bb
 ·refine⟨_,rfl,?_⟩;refine uO 18 ?_;refine bt ?_;refine⟨?_,hS.nil⟩;rw[decide_eq_false];intro h;exact (of_decide_eq_false h9) (congrArg gP.jd h)
 ·refine⟨_,rfl,?_⟩;refine uO 1 ?_;refine u1 0 (aa rfl tH) ?_;refine u1 0 (ag (cs:=[_,_]) rfl bj aC (by exact (hS.p 1).ab (xs:=[_,_]) rfl)) ?_;refine u1 0 (aa rfl tH) ?_;refine u1 0 (ag (cs:=[_,_]) rfl bj aC (by exact hS.ab (xs:=[_,_]) rfl)) ?_;intro a hA;refine eZ hA (ar hA rfl rfl rfl) rfl Cq rfl (rj _ p q (hpp.sat hS) (gpp.sat hS) hpv (by omega) gpv (by omega)) ?_;clear hA a;rintro e w ⟨rfl,hT⟩;replace hS:Sat _ _ _:=hS.ah hT;clear hT;generalize h15:(decide (p.d=q.d))=bb;cases bb
  ·refine⟨_,rfl,?_⟩;refine uO 12 ?_;refine bt ?_;refine⟨?_,hS.nil⟩;rw[decide_eq_false];intro h;exact (of_decide_eq_false h15) (congrArg gP.a8 h)
  ·refine⟨_,rfl,?_⟩;refine uO 2 ?_;refine u1 0 (aa rfl tJ) ?_;refine u1 0 (ld rfl nU) ?_;refine u1 0 (aa rfl tJ) ?_;refine u1 0 (ld rfl nU) ?_;intro a hA;refine eZ hA (ar hA rfl rfl rfl) rfl EE rfl (nu _ ra rc rs ta tc ts (hrt.sat hS) (grt.sat hS) (fun r h=>(hre r h).sat hS) (fun r h=>(gre r h).sat hS) hrb grb (by omega) (by omega)) ?_;clear hA a;rintro e w ⟨rfl,hT⟩;replace hS:Sat _ _ _:=hS.ah hT;clear hT;refine⟨_,rfl,?_⟩;refine uO 5 ?_;refine bt ?_;refine⟨?_,hS.nil⟩
   congr 2
   rw[decide_eq_decide];exact⟨fun h=>zo (of_decide_eq_true h9) (of_decide_eq_true h15) h,fun h=>congrArg gP.ky h⟩
theorem ph (W:World)(s t:SL)(hp:s.ok W)(hs:kK s)(gp:t.ok W)(gs:kK t):Calls Tryz.prog 51 #[.agg #[.slice s.e.a s.e.es.length s.e.c,.slice s.p.va s.p.d.vec.length s.p.vc,.slice s.p.ca s.p.d.ad.length s.p.cc,.slice s.r.a s.r.rs.length s.r.c],.agg #[.slice t.e.a t.e.es.length t.e.c,.slice t.p.va t.p.d.vec.length t.p.vc,.slice t.p.ca t.p.d.ad.length t.p.cc,.slice t.r.a t.r.rs.length t.r.c]] W fun e w'=>e=.returned (.bool (decide (s.d=t.d)))∧Sat W w' []:=by
 refine enter Tryz.func51 rfl rfl rfl (.cons (i:=0) rfl (.cons (i:=1) rfl .nil)) ?_;have hS:=Sat.start W;refine uC 2 ?_;refine uB rfl hS ?_;clear hS;intro b2 w hS;refine uB rfl hS ?_;clear hS;intro b3 w hS;refine uO 5 ?_;refine u1 0 (aa rfl mx) ?_;refine u1 0 (ld rfl nb) ?_;refine u1 0 (aa rfl oH) ?_;refine u1 0 (ag (cs:=[_,_]) rfl bj aC (by exact (hS.p 1).ab (xs:=[_,_]) rfl)) ?_;refine u1 0 (aa rfl mG) ?_;refine u1 0 (ld rfl nU) ?_;intro a hA;refine o1 0 hA (ax hA rfl j0) ?_;clear hA a;refine uN rU hS ?_;clear hS;intro b5 w hS;refine uW (vs:=[_,_,_,_]) (cs':=[_,_,_,_]) rfl rfl eE hS ?_;clear hS;intro w hS
 refine uO 4 ?_;refine u1 0 (aa rfl mx) ?_;refine u1 0 (ld rfl nb) ?_;refine u1 0 (aa rfl oH) ?_;refine u1 0 (ag (cs:=[_,_]) rfl bj aC (by exact (hS.p 1).ab (xs:=[_,_]) rfl)) ?_;refine u1 0 (aa rfl mG) ?_;refine u1 0 (ld rfl nU) ?_;intro a hA;refine o1 0 hA (ax hA rfl j0) ?_;clear hA a;refine uN rU hS ?_;clear hS;intro b6 w hS;refine uW (vs:=[_,_,_,_]) (cs':=[_,_,_,_]) rfl rfl eE hS ?_;clear hS;intro w hS;refine uO 4 ?_;refine u1 0 (ag (cs:=[_,_,_,_]) rfl jZ eE (by exact (hS.p 1).ab (xs:=[_,_,_,_]) rfl)) ?_;refine u1 0 (ag (cs:=[_,_,_,_]) rfl jZ eE (by exact hS.ab (xs:=[_,_,_,_]) rfl)) ?_;refine uF Fq rfl (l7 _ s t (hp.sat hS) hs (gp.sat hS) gs) ?_;rintro e w ⟨rfl,hT⟩;replace hS:Sat _ _ _:=hS.ah hT;clear hT;refine⟨_,rfl,?_⟩;refine uO 4 ?_;refine bt ?_
 exact⟨rfl,hS.nil⟩
end Go.Proofs.YtkjabaihpkbfhaaGreat.Wk
namespace Go.Proofs.YtkjabaihpkbfhaaGreat.Wk
open Go Go.RowKit Go.Proofs.YtkjabaihpkbfhaaGreat Go.Proofs.YtkjabaihpkbfhaaGreat.K
def aY (n:Nat):List UInt8:=if n<128 then [UInt8.ofNat n] else UInt8.ofNat (n % 128+128)::aY (n / 128)
termination_by n
decreasing_by omega
theorem gg {n:Nat}(h:n<128):aY n=[UInt8.ofNat n]:=by rw[aY,if_pos h]
theorem nz {n:Nat}(h:128≤n):aY n=UInt8.ofNat (n % 128+128)::aY (n / 128):=by rw[aY,if_neg (by omega)]
theorem cb (n:Nat):0<(aY n).length:=by
 by_cases h:n<128
 ·
  rw[gg h];simp
 ·
  rw[nz (by omega)];simp
theorem vu:∀(k n:Nat),n<128 ^ (k+1)→(aY n).length≤k+1
 | 0,n,h=>by rw[gg (by simpa using h)];simp
 | k + 1, n, h => by
   by_cases hn:n<128
   ·
    rw[gg hn];simp
   ·
    rw[nz (by omega)];have:=vu k (n / 128) (by rw[Nat.div_lt_iff_lt_mul (by omega)];rw[Nat.pow_succ]at h;exact h);simp;omega
theorem ck {n:Nat}(h:n≤9223372036854775807):(aY n).length≤9:=vu 8 n (by omega)
def fJ:Nat→Nat→List UInt8→Nat×Nat×Nat
 | 0,_,_=>(51,0,0)
 | _+1,_,[]=>(50,0,0)
 | f + 1, k, c :: l => if c.toNat < 128 then (if c.toNat = 0 ∧ 0 < k then (51, 0, 0) else (0, c.toNat, 1)) else
     (if (fJ f (k+1) l).1=0 then (0,(c.toNat-128)+128 * (fJ f (k+1) l).2.1,(fJ f (k+1) l).2.2+1) else ((fJ f (k+1) l).1,0,0))
def lift (acc wt i:Nat)(r:Nat×Nat×Nat):Nat×Nat×Nat:=if r.1=0 then (0,acc+wt * r.2.1,i+r.2.2) else (r.1,0,0)
theorem xW (acc wt i c:Nat)(r:Nat×Nat×Nat):lift acc wt i (if r.1=0 then (0,c+128 * r.2.1,r.2.2+1) else (r.1,0,0))=lift (acc+wt * c) (wt * 128) (i+1) r:=by
 unfold lift
 by_cases h:r.1=0
 ·
  rw[if_pos h,if_pos rfl,if_pos h];simp only[Prod.mk.injEq,true_and];refine⟨?_,by omega⟩;rw[Nat.mul_add,Nat.mul_assoc,←Nat.add_assoc]
 ·
  rw[if_neg h,if_neg h,if_neg h]
theorem Bn (r:Nat×Nat×Nat)(h:r.1=0∨(r.2.1=0∧r.2.2=0)):lift 0 1 0 r=r:=by
 unfold lift;obtain⟨a,b,c⟩:=r
 by_cases ha:a=0
 ·
  subst ha;simp
 ·
  rw[if_neg ha];rcases h with h | ⟨h1,h2⟩
  ·
   exact absurd h ha
  ·
   simp at h1 h2;subst h1 h2;rfl
theorem zH:∀(f k:Nat) (l:List UInt8),(fJ f k l).1=0∨((fJ f k l).2.1=0∧(fJ f k l).2.2=0)
 | 0,_,_=>.inr ⟨rfl,rfl⟩
 | _+1,_,[]=>.inr ⟨rfl,rfl⟩
 | f + 1, k, c :: l => by
   unfold fJ
   (repeat' split)<;>simp
theorem xD (c:UInt8):c.toNat<256:=c.toNat_lt
theorem tC:∀(f k:Nat) (l:List UInt8) (v n:Nat),fJ f k l=(0,v,n)→n≤f∧n≤l.length∧v<128 ^ f∧(0<k→0<v)∧l.take n=aY v
 | 0,_,_,_,_,h=>by simp[fJ]at h
 | _+1,_,[],_,_,h=>by simp[fJ]at h
 | f + 1, k, c :: l, v, n, h => by
   unfold fJ at h;have hc:=xD c
   split at h
   ·
    rename_i h1
    split at h
    ·
     simp at h
    ·
     rename_i h2;simp only[Prod.mk.injEq,true_and]at h;obtain⟨rfl,rfl⟩:=h;have hp:1≤128 ^ f:=Nat.one_le_pow _ _ (by omega);refine⟨by omega,by simp,by rw[Nat.pow_succ];omega,fun hk=>by omega,?_⟩;rw[gg h1];simp
   ·
    rename_i h1
    split at h
    ·
     rename_i h2;simp only[Prod.mk.injEq,true_and]at h;obtain⟨rfl,rfl⟩:=h;obtain⟨i1,i2,i3,i4,i5⟩:=tC f (k+1) l (fJ f (k+1) l).2.1 (fJ f (k+1) l).2.2 (by rw[←h2]);have i4:=i4 (by omega);refine⟨by omega,by simp;omega,by rw[Nat.pow_succ];omega,fun _=>by omega,?_⟩;rw[nz (by omega),List.take_succ_cons];have e1:(c.toNat-128+128 * (fJ f (k+1) l).2.1) / 128=(fJ f (k+1) l).2.1:=by omega
     have e2:(c.toNat-128+128 * (fJ f (k+1) l).2.1) % 128+128=c.toNat:=by omega
     rw[e1,e2,i5];simp
    ·
     simp at h;omega
theorem zF:∀(f k v:Nat) (l:List UInt8),v<128 ^ f→(0<k→0<v)→0<f→fJ f k (aY v++l)=(0,v,(aY v).length)
 | 0,_,_,_,_,_,h=>by omega
 | f + 1, k, v, l, hv, hk, _ => by
   by_cases h:v<128
   ·
    rw[gg h];have e:(UInt8.ofNat v).toNat=v:=by simp[UInt8.toNat_ofNat'];omega
    simp only[List.cons_append,List.nil_append,fJ,e];rw[if_pos h,if_neg (by omega)];rfl
   ·
    rw[nz (by omega)];have e:(UInt8.ofNat (v % 128+128)).toNat=v % 128+128:=by simp[UInt8.toNat_ofNat'];omega
    have hf:0<f:=by
     rcases Nat.eq_zero_or_pos f with h0 | h0
     ·
      subst h0;simp at hv;omega
     ·
      exact h0
    have:=zF f (k+1) (v / 128) l (by rw[Nat.div_lt_iff_lt_mul (by omega)];rw[Nat.pow_succ]at hv;exact hv) (fun _=>by omega) hf;simp only[List.cons_append,fJ,e,this];rw[if_neg (by omega),if_pos trivial];simp;omega
def dI (bs:List UInt8)(at_:Nat):Nat×Nat×Nat:=if (fJ 9 0 (bs.drop at_)).1=0 then ((fJ 9 0 (bs.drop at_)).2.1,at_+(fJ 9 0 (bs.drop at_)).2.2,0) else (0,0,(fJ 9 0 (bs.drop at_)).1)
theorem oa {bs:List UInt8}{i:Nat}(h:(dI bs i).2.2=0):i<(dI bs i).2.1∧((dI bs i).2.1≤bs.length)∧(dI bs i).1≤9223372036854775807∧(dI bs i).2.1≤i+9∧(bs.drop i).take ((dI bs i).2.1-i)=aY (dI bs i).1∧(dI bs i).2.1-i=(aY (dI bs i).1).length:=by
 unfold dI at h ⊢
 by_cases h0:(fJ 9 0 (bs.drop i)).1=0
 ·
  rw[if_pos h0];obtain⟨h1,h2,h3,_,h5⟩:=tC 9 0 (bs.drop i) (fJ 9 0 (bs.drop i)).2.1 (fJ 9 0 (bs.drop i)).2.2 (Prod.ext h0 rfl);have h6:=congrArg List.length h5;rw[List.length_take]at h6;have h7:=cb (fJ 9 0 (bs.drop i)).2.1;simp only[List.length_drop]at h2 h6;have e:i+(fJ 9 0 (bs.drop i)).2.2-i=(fJ 9 0 (bs.drop i)).2.2:=by omega
  dsimp only;rw[e];refine⟨by omega,by omega,?_,by omega,h5,by omega⟩;have:(128:Nat) ^ 9=9223372036854775808:=by decide
  omega
 ·
  rw[if_neg h0]at h;exact absurd h h0
def kY (wt i:Nat):Prop:=wt=128 ^ i
theorem kY.zero:kY 1 0:=rfl
theorem kY.succ {wt i:Nat}(h:kY wt i):kY (wt * 128) (i+1):=by unfold kY at *;rw[h,Nat.pow_succ]
theorem kY.le {wt i:Nat}(h:kY wt i)(hi:i≤8):1≤wt∧wt≤72057594037927936:=by
 unfold kY at h;subst h;exact⟨Nat.one_le_pow _ _ (by omega),Nat.le_trans (Nat.pow_le_pow_right (by omega) hi) (by decide)⟩
theorem kY.two {wt i:Nat}(h:kY wt i):wt=2 ^ (7 * i):=by unfold kY at h;rw[h,show (128:Nat)=2 ^ 7 from rfl,←Nat.pow_mul]
theorem Dj {x wt i:Nat}(hx:x<128)(h:kY wt i)(hi:i≤8):x * wt≤9151314442816847872:=Nat.le_trans (Nat.mul_le_mul (show x≤127 by omega) (h.le hi).2) (by decide)
theorem C0 (c:UInt8):IntKind.u8.wrap (BitVec.ofInt IntKind.u8.bits (c.toNat:Int) &&& BitVec.ofInt IntKind.u8.bits 127).toNat=((c.toNat % 128:Nat):Int):=by
 have h:(BitVec.ofInt IntKind.u8.bits (c.toNat:Int) &&& BitVec.ofInt IntKind.u8.bits 127).toNat=c.toNat % 128:=by
  rw[BitVec.toNat_and,BitVec.toNat_ofInt,BitVec.toNat_ofInt]
  have h1:((c.toNat:Int) % ((2 ^ IntKind.u8.bits:Nat):Int)).toNat=c.toNat:=by
   have:=xD c;simp[IntKind.bits];omega
  have h2:((127:Int) % ((2 ^ IntKind.u8.bits:Nat):Int)).toNat=2 ^ 7-1:=by decide
  rw[h1,h2,Nat.and_two_pow_sub_one_eq_mod]
 rw[h,fG (by simp[IntKind.min,IntKind.signed];try omega) (by simp[IntKind.max,IntKind.signed,IntKind.bits];try omega)]
theorem F8 {x i wt:Nat}(hx:x<128)(hi:i≤8)(hw:kY wt i):IntKind.i64.wrap ((x:Int) * 2 ^ (min ((7 * (i:Int)).toNat) IntKind.i64.bits))=((x * wt:Nat):Int):=by
 have h1:min ((7 * (i:Int)).toNat) IntKind.i64.bits=7 * i:=by simp[IntKind.bits];omega
 have h2:=Dj hx hw hi;have h3:(x:Int) * 2 ^ (7 * i)=((x * wt:Nat):Int):=by rw[hw.two];simp
 rw[h1,h3,fG (by simp only[IntKind.min,IntKind.signed,IntKind.bits];omega) (by simp only[IntKind.max,IntKind.signed,IntKind.bits];omega)]
theorem GR {acc x i wt:Nat}(ha:acc<wt)(hx:x<128)(hi:i≤8)(hw:kY wt i):IntKind.i64.wrap (BitVec.ofInt IntKind.i64.bits (acc:Int) ||| BitVec.ofInt IntKind.i64.bits ((x * wt:Nat):Int)).toNat=((acc+x * wt:Nat):Int):=by
 have h2:=Dj hx hw hi;have h1:=(hw.le hi).2
 have b:∀n:Nat,n<9223372036854775808→(BitVec.ofInt IntKind.i64.bits (n:Int)).toNat=n:=fun n hn=>by
  rw[BitVec.toNat_ofInt];simp only[IntKind.bits];omega
 have h:(BitVec.ofInt IntKind.i64.bits (acc:Int) ||| BitVec.ofInt IntKind.i64.bits ((x * wt:Nat):Int)).toNat=acc+x * wt:=by
  rw[BitVec.toNat_or,b _ (by omega),b _ (by omega),Nat.or_comm,Nat.mul_comm x wt,hw.two];rw[hw.two]at ha;rw[←Nat.two_pow_add_eq_or_of_lt ha,Nat.add_comm]
 rw[h,fG (by simp only[IntKind.min,IntKind.signed,IntKind.bits];omega) (by simp only[IntKind.max,IntKind.signed,IntKind.bits];omega)]
theorem ve {x:Nat}(h:x<256):Value.int .u8 (x:Int)=ao (UInt8.ofNat x):=by
 unfold ao;simp[UInt8.toNat_ofNat'];omega
theorem tq {bs:List UInt8}{j:Nat}{x:UInt8}(hx:bs[j]?=some x):bs.drop j=x::bs.drop (j+1):=by
 have hl:=(List.getElem?_eq_some_iff.1 hx).1;rw[List.drop_eq_getElem_cons hl,(List.getElem?_eq_some_iff.1 hx).2]
theorem Bm {bs:List UInt8}{at_ i acc wt:Nat}{x:UInt8}(hi:i≤8)(hx:bs[at_+i]?=some x)(hge:128≤x.toNat) :
 lift acc wt i (fJ (9-i) i (bs.drop (at_+i)))=lift (acc+x.toNat % 128 * wt) (wt * 128) (i+1) (fJ (9-(i+1)) (i+1) (bs.drop (at_+(i+1)))):=by
 have hlt:=xD x;rw[tq hx,show 9-i=9-(i+1)+1 from by omega,fJ,if_neg (by omega),xW,Nat.mul_comm,show x.toNat-128=x.toNat % 128 from by omega,Nat.add_assoc]
theorem kZ {bs:List UInt8}{at_ i acc wt:Nat}(hi:i≤8)(h:bs.length≤at_+i)(hI:fJ 9 0 (bs.drop at_)=lift acc wt i (fJ (9-i) i (bs.drop (at_+i)))):dI bs at_=(0,0,50):=by
 rw[List.drop_of_length_le h,show 9-i=8-i+1 from by omega]at hI;unfold dI;rw[hI];rfl
theorem nq {bs:List UInt8}{at_ i acc wt:Nat}{x:UInt8}(hi:i≤8)(hx:bs[at_+i]?=some x)(h0:x.toNat=0)(hi0:0<i)(hI:fJ 9 0 (bs.drop at_)=lift acc wt i (fJ (9-i) i (bs.drop (at_+i)))):dI bs at_=(0,0,51):=by
 rw[tq hx,show 9-i=8-i+1 from by omega,fJ,if_pos (by omega),if_pos ⟨h0,hi0⟩]at hI;unfold dI;rw[hI];rfl
theorem nG {bs:List UInt8}{at_ i acc wt:Nat}{x:UInt8}(hi:i≤8)(hx:bs[at_+i]?=some x)(hlt:x.toNat<128)(h0:¬(x.toNat=0∧0<i))(hI:fJ 9 0 (bs.drop at_)=lift acc wt i (fJ (9-i) i (bs.drop (at_+i)))):dI bs at_=(acc+x.toNat * wt,at_+i+1,0):=by
 rw[tq hx,show 9-i=8-i+1 from by omega,fJ,if_pos hlt,if_neg h0]at hI;unfold dI;rw[hI];simp only[lift,if_true,Prod.mk.injEq,and_true];exact⟨by rw[Nat.mul_comm],by omega⟩
theorem qy {bs:List UInt8}{at_ acc wt:Nat}(hI:fJ 9 0 (bs.drop at_)=lift acc wt 9 (fJ 0 9 (bs.drop (at_+9)))):dI bs at_=(0,0,51):=by
 unfold dI;rw[hI];rfl
theorem Al (bs:List UInt8)(at_:Nat):fJ 9 0 (bs.drop at_)=lift 0 1 0 (fJ (9-0) 0 (bs.drop (at_+0))):=(Bn _ (zH 9 0 _)).symm
theorem C6 {acc wt x:Nat}(h:acc<wt)(hx:x<128):acc+x * wt<wt * 128:=by
 have h1:x * wt≤127 * wt:=Nat.mul_le_mul_right _ (by omega);omega
end Go.Proofs.YtkjabaihpkbfhaaGreat.Wk
namespace Go.Proofs.YtkjabaihpkbfhaaGreat.Wk
open Go Go.RowKit Go.Proofs.YtkjabaihpkbfhaaGreat Go.Proofs.YtkjabaihpkbfhaaGreat.K Go.Proofs.YtkjabaihpkbfhaaGreat.T
theorem gX (W w:World)(L:List As)(A:Option Addr)(c:Nat)(bs:List UInt8)(v:Nat)(hS:Sat W w (row 5 1 (.slice A (bs).length c) (bs).length ((bs).map ao)::L))(hv:v≤9223372036854775807)(hb:bs.length≤140737488355000):Calls Tryz.prog 144 #[.slice A bs.length c,.int .i64 ((v:Nat):Int)] w fun e w'=>∃A' c',e=.returned (.slice A' (bs++aY v).length c')∧Sat W w' (row 5 1 (.slice A' (bs++aY v).length c') (bs++aY v).length ((bs++aY v).map ao)::L):=by
 refine enter Tryz.func144 rfl rfl rfl (.cons (i:=0) rfl (.cons (i:=1) rfl .nil)) ?_;refine uC 7 ?_;intro a hA;refine wp_loop_ghost (fun (mm:Nat) a w=>∃(A':Option Addr) (c':Nat) (ds:List UInt8) (m:Nat),Ag a 21 [(0,.slice A' (bs++ds).length c'),(1,.int .i64 ((m:Nat):Int))]∧Sat W w (row 5 1 (.slice A' (bs++ds).length c') (bs++ds).length ((bs++ds).map ao)::L)∧(ds++aY m=aY v)∧(m≤v)∧mm=m) v ?_ ?_
 ·replace hA:=hA.kp [0,1] rfl;rw[←List.append_nil bs]at hS hA;exact⟨_,_,[],v,hA,hS,(by rfl),(by omega),by omega⟩
 intro m a w hI;clear hS hA;obtain⟨A',c',ds,m,hA,hS,hm,hmv,rfl⟩:=hI;have h9:=ck hv;have hdl:=congrArg List.length hm;rw[List.length_append]at hdl;have hnp:=cb m;refine rC 4 hA ?_;clear hA a;refine ba 0 0 (gQ rfl rfl) ?_ ?_
 ·intro h6;refine uO 10 ?_;refine u1 0 (BU rfl rfl (by omega) (by omega)) ?_;refine u1 0 (xz rfl r4 ry (by omega) (by omega)) ?_;refine u1 0 (C9 rfl rfl (by omega) (by omega)) ?_;intro a hA;refine yk hA rfl rfl cR uu rfl rfl rfl (by simp[Value.oneCell']) hS ?_;clear hA a hS;intro A12 w hS;intro a hA;refine eP hA rfl rfl rfl cR uu rfl (hS.p 1) (hS.rd.src cR (by simp[Value.oneCell'])) (by simp only[List.length_append];omega) (by simp only[List.length_append];omega) ?_;clear hA a hS;intro A13 c13 w hc13 hS;refine uO 5 ?_;refine u1 3 (xb rfl rfl (by omega) (by omega) (by omega)) ?_;intro a hA;replace hA:=hA.kp [0,1] rfl;have hge:=nz (n:=m) (by omega);have hnc:=ve (x:=m % 128+128) (by omega)
  have e1:(bs++ds).map ao++[Value.int .u8 ((m:Int) % 128+128)]=(bs++(ds++[UInt8.ofNat (m % 128+128)])).map ao:=by rw[show ((m:Int) % 128+128:Int)=((m % 128+128:Nat):Int) from by omega,hnc];simp
  have e2:(bs++ds).length+1=(bs++(ds++[UInt8.ofNat (m % 128+128)])).length:=by simp;try omega
  have e3:((m:Int) / 128)=((m / 128:Nat):Int):=by omega
  rw[e1,e2]at hS;rw[e2,e3]at hA;have e4:(ds++[UInt8.ofNat (m % 128+128)])++aY (m / 128)=aY v:=by rw[←hm,hge];simp
  have e5:=congrArg List.length e4;have e6:=cb (m / 128);simp only[List.length_append,List.length_cons,List.length_nil]at e5;exact⟨m / 128,by omega,_,_,ds++[UInt8.ofNat (m % 128+128)],m / 128,hA,(hS.p 1).drop,e4,by omega,rfl⟩
 ·intro h6;refine uO 12 ?_;refine u1 0 (xz rfl r4 ry (by omega) (by omega)) ?_;intro a hA;refine yk hA rfl rfl cR uu rfl rfl rfl (by simp[Value.oneCell']) hS ?_;clear hA a hS;intro A19 w hS;intro a hA;refine eP hA rfl rfl rfl cR uu rfl (hS.p 1) (hS.rd.src cR (by simp[Value.oneCell'])) (by simp only[List.length_append];omega) (by simp only[List.length_append];omega) ?_;clear hA a hS;intro A20 c20 w hc20 hS;refine uO 4 ?_;refine bt ?_;have hlt:=gg (n:=m) (by omega);have hnc:=ve (x:=m) (by omega);have e1:(bs++ds).map ao++[Value.int .u8 (m:Int)]=(bs++aY v).map ao:=by rw[hnc,←hm,hlt];simp
  have e2:(bs++ds).length+1=(bs++aY v).length:=by rw[←hm,hlt];simp;try omega
  rw[e1,e2]at hS;rw[e2];exact⟨_,_,rfl,(hS.p 1).drop⟩
theorem sV (W:World)(A:Option Addr)(c:Nat)(bs:List UInt8)(at_:Nat)(hR:Rd W 1 (.slice A bs.length c) bs.length (bs.map ao))(hat:at_≤bs.length)(hb:bs.length≤140737488355328):Calls Tryz.prog 150 #[.slice A bs.length c,.int .i64 ((at_:Nat):Int)] W fun e w'=>e=.returned (.tuple #[.int .i64 (((dI bs at_).1:Nat):Int),.int .i64 (((dI bs at_).2.1:Nat):Int),.int .i64 (((dI bs at_).2.2:Nat):Int)])∧Sat W w' []:=by
 refine enter Tryz.func150 rfl rfl rfl (.cons (i:=0) rfl (.cons (i:=1) rfl .nil)) ?_;have hS:=Sat.start W;refine uC 19 ?_;intro a hA;refine wp_loop_ghost (fun (mm:Nat) a w=>∃(acc i wt:Nat),Ag a 47 [(0,.slice A bs.length c),(1,.int .i64 ((at_:Nat):Int)),(7,.int .i64 ((acc:Nat):Int)),(10,.int .i64 ((i:Nat):Int))]∧Sat W w ([])∧(i≤9)∧(acc<wt)∧(kY wt i)∧(fJ 9 0 (bs.drop at_)=lift acc wt i (fJ (9-i) i (bs.drop (at_+i))))∧mm=9-i) 9 ?_ ?_
 ·replace hA:=hA.kp [0,1,7,10] rfl;exact⟨0,0,1,hA,hS,(by omega),(by omega),(by exact kY.zero),(by exact Al _ _),by omega⟩
 intro m a w hI;clear hS hA;obtain⟨acc,i,wt,hA,hS,hi,hac,hw,hI,rfl⟩:=hI;refine rC 2 hA ?_;clear hA a;refine ba 0 0 (aA rfl rfl) ?_ ?_
 ·intro h11;refine uO 19 ?_;refine u1 1 (aj rfl rfl (by omega) (by omega)) ?_;refine u1 0 (au rfl cR) ?_;refine ba 0 0 (gQ rfl rfl) ?_ ?_
  ·intro h18;refine uO 17 ?_;intro a hA;refine Ba hA rfl rfl rfl rfl ?_
   first
    | (rw[kZ (by omega) (by omega) hI];exact⟨rfl,hS⟩)
    | (rw[nq (by omega) hx' (by omega) (by omega) hI];exact⟨rfl,hS⟩)
    | (rw[nG (by omega) hx' (by omega) (by omega) hI,show x.toNat % 128=x.toNat from by omega];exact⟨rfl,hS⟩)
    | (obtain rfl:i=9:=(by omega);rw[qy hI];exact⟨rfl,hS⟩)
  ·intro h18;refine uO 10 ?_;refine u1 0 (aj rfl rfl (by omega) (by omega)) ?_;obtain⟨A_p,rfl⟩:∃q,A=some q:=(hR.sat hS).aw (by omega);obtain⟨x,hx⟩:∃zz_,bs[((at_:Int)+(i:Int)).toNat]?=some zz_:=⟨_,List.getElem?_eq_getElem (by omega)⟩;have hx':bs[at_+i]?=some x:=by rw[←hx];congr 1
   have hxl:=xD x;refine u1 0 (an rfl rfl cR DH (by omega) (by omega)) ?_;refine u1 7 (av rfl F2 (ml (hR.sat hS) (ey hx))) ?_;refine u1 0 (aH (Fx rfl rfl) (congrArg (Value.int .u8) (C0 x))) ?_;refine u1 1 (qH rfl ry r4 (by simp only[IntKind.min,IntKind.signed,IntKind.bits];omega) (by simp only[IntKind.max,IntKind.signed,IntKind.bits];omega)) ?_;refine u1 0 (B1 rfl rfl (by omega) (by omega)) ?_;refine u1 0 (aH (CX rfl rfl (by omega)) (congrArg (Value.int .i64) (F8 (by omega) (by omega) hw))) ?_;refine u1 6 (aH (Gi rfl rfl) (congrArg (Value.int .i64) (GR hac (by omega) (by omega) hw))) ?_;refine ba 0 0 (aA rfl rfl) ?_ ?_
   ·intro h34;refine uO 7 ?_;refine ba 0 0 (bN rfl rfl) ?_ ?_
    ·intro h36;refine uO 2 ?_;refine ba 0 0 (dW rfl rfl) ?_ ?_
     ·intro h39;refine uO 18 ?_;intro a hA;refine Ba hA rfl rfl rfl rfl ?_
      first
       | (rw[kZ (by omega) (by omega) hI];exact⟨rfl,hS⟩)
       | (rw[nq (by omega) hx' (by omega) (by omega) hI];exact⟨rfl,hS⟩)
       | (rw[nG (by omega) hx' (by omega) (by omega) hI,show x.toNat % 128=x.toNat from by omega];exact⟨rfl,hS⟩)
       | (obtain rfl:i=9:=(by omega);rw[qy hI];exact⟨rfl,hS⟩)
     ·intro h39;refine uO 11 ?_;refine u1 0 (aj rfl rfl (by omega) (by omega)) ?_;refine u1 11 (aj rfl rfl (by omega) (by omega)) ?_;intro a hA;refine Ba hA rfl rfl rfl rfl ?_
      first
       | (rw[kZ (by omega) (by omega) hI];exact⟨rfl,hS⟩)
       | (rw[nq (by omega) hx' (by omega) (by omega) hI];exact⟨rfl,hS⟩)
       | (rw[nG (by omega) hx' (by omega) (by omega) hI,show x.toNat % 128=x.toNat from by omega];exact⟨rfl,hS⟩)
       | (obtain rfl:i=9:=(by omega);rw[qy hI];exact⟨rfl,hS⟩)
    ·intro h36;refine uO 14 ?_;refine u1 0 (aj rfl rfl (by omega) (by omega)) ?_;refine u1 11 (aj rfl rfl (by omega) (by omega)) ?_;intro a hA;refine Ba hA rfl rfl rfl rfl ?_
     first
      | (rw[kZ (by omega) (by omega) hI];exact⟨rfl,hS⟩)
      | (rw[nq (by omega) hx' (by omega) (by omega) hI];exact⟨rfl,hS⟩)
      | (rw[nG (by omega) hx' (by omega) (by omega) hI,show x.toNat % 128=x.toNat from by omega];exact⟨rfl,hS⟩)
      | (obtain rfl:i=9:=(by omega);rw[qy hI];exact⟨rfl,hS⟩)
   ·intro h34;refine uO 7 ?_;refine u1 2 (aj rfl rfl (by omega) (by omega)) ?_;intro a hA;replace hA:=hA.kp [0,1,7,10] rfl;have hm7:=Dj (x:=x.toNat % 128) (by omega) hw (by omega);rw[show ((i:Int)+1)=((i+1:Nat):Int) from rfl]at hA;exact⟨9-(i+1),by omega,acc+x.toNat % 128 * wt,i+1,wt * 128,hA,hS,by omega,C6 hac (by omega),hw.succ,by rw[hI];exact Bm (by omega) hx' (by omega),rfl⟩
 ·intro h11;refine uO 17 ?_;intro a hA;refine Ba hA rfl rfl rfl rfl ?_
  first
   | (rw[kZ (by omega) (by omega) hI];exact⟨rfl,hS⟩)
   | (rw[nq (by omega) hx' (by omega) (by omega) hI];exact⟨rfl,hS⟩)
   | (rw[nG (by omega) hx' (by omega) (by omega) hI,show x.toNat % 128=x.toNat from by omega];exact⟨rfl,hS⟩)
   | (obtain rfl:i=9:=(by omega);rw[qy hI];exact⟨rfl,hS⟩)
end Go.Proofs.YtkjabaihpkbfhaaGreat.Wk
namespace Go.Proofs.YtkjabaihpkbfhaaGreat.Wk
open Go Go.RowKit Go.Proofs.YtkjabaihpkbfhaaGreat Go.Proofs.YtkjabaihpkbfhaaGreat.K
def eQ (bs:List UInt8)(i:Nat)(mo:Int):Nat×Nat×Nat:=if (dI bs i).2.2≠0 then (0,0,(dI bs i).2.2) else if mo<((dI bs i).1:Int) then (0,0,51) else ((dI bs i).1,(dI bs i).2.1,0)
theorem pA {bs:List UInt8}{i:Nat}{mo:Int}(h:(dI bs i).2.2≠0):eQ bs i mo=(0,0,(dI bs i).2.2):=if_pos h
theorem ru {bs:List UInt8}{i:Nat}{mo:Int}(h:(dI bs i).2.2=0)(h2:mo<((dI bs i).1:Int)):eQ bs i mo=(0,0,51):=by unfold eQ;rw[if_neg (by omega),if_pos h2]
theorem rF {bs:List UInt8}{i:Nat}{mo:Int}(h:(dI bs i).2.2=0)(h2:((dI bs i).1:Int)≤mo):eQ bs i mo=((dI bs i).1,(dI bs i).2.1,0):=by unfold eQ;rw[if_neg (by omega),if_neg (by omega)]
theorem xk {bs:List UInt8}{i:Nat}{mo:Int}(hi:i≤bs.length):(eQ bs i mo).2.2≠0∨((eQ bs i mo).2.2=0∧i<(eQ bs i mo).2.1∧(eQ bs i mo).2.1≤bs.length∧(eQ bs i mo).1≤9223372036854775807):=by
 unfold eQ
 by_cases h:(dI bs i).2.2=0
 ·
  obtain⟨k1,k2,k3,k4,k5,k6⟩:=oa h;rw[if_neg (by omega)]
  split
  ·
   simp
  ·
   simp;omega
 ·
  rw[if_pos h];simp[h]
def ku (bs:List UInt8)(i:Nat)(mo:Int):List UInt8×Nat×Nat:=if (eQ bs i mo).2.2≠0 then ([],0,(eQ bs i mo).2.2) else if bs.length-(eQ bs i mo).2.1<(eQ bs i mo).1 then ([],0,50) else ((bs.drop (eQ bs i mo).2.1).take (eQ bs i mo).1,(eQ bs i mo).2.1+(eQ bs i mo).1,0)
theorem pH {bs:List UInt8}{i:Nat}{mo:Int}(h:(eQ bs i mo).2.2≠0):ku bs i mo=([],0,(eQ bs i mo).2.2):=if_pos h
theorem lz {bs:List UInt8}{i:Nat}{mo:Int}(h:(eQ bs i mo).2.2=0)(h2:bs.length-(eQ bs i mo).2.1<(eQ bs i mo).1):ku bs i mo=([],0,50):=by unfold ku;rw[if_neg (by omega),if_pos h2]
theorem pT {bs:List UInt8}{i:Nat}{mo:Int}(h:(eQ bs i mo).2.2=0)(h2:(eQ bs i mo).1≤bs.length-(eQ bs i mo).2.1):ku bs i mo=((bs.drop (eQ bs i mo).2.1).take (eQ bs i mo).1,(eQ bs i mo).2.1+(eQ bs i mo).1,0):=by unfold ku;rw[if_neg (by omega),if_neg (by omega)]
theorem xJ {bs:List UInt8}{i:Nat}{mo:Int}:(ku bs i mo).1.length≤bs.length:=by
 unfold ku
 (repeat' split)
 ·
  simp
 ·
  simp
 ·
  simp;omega
theorem zz {w:World}{A:Option Addr}{c:Nat}{bs:List UInt8}(h:Rd w 1 (.slice A bs.length c) bs.length (bs.map ao))(i n:Nat)(hi:i+n≤bs.length) :
 Rd w 1 (.slice (gR A c 1 i) ((bs.drop i).take n).length (c-i)) ((bs.drop i).take n).length (((bs.drop i).take n).map ao):=by
 have h':=h.cut i (i+n) (by omega) hi;have e:((bs.drop i).take n).length=i+n-i:=by simp;omega
 rw[e]
 have e2:((bs.map ao).drop (i * 1)).take ((i+n-i) * 1)=((bs.drop i).take n).map ao:=by
  rw[List.map_take,List.map_drop,Nat.mul_one,Nat.mul_one];congr 1;omega
 rw[e2]at h';exact h'
theorem zd {A:Option Addr}{c:Nat}{bs:List UInt8}{i j n:Nat}(hj:j=i+n)(hn:j≤bs.length):(Value.slice (gR A c 1 ((i:Int)).toNat) (((j:Int)).toNat-((i:Int)).toNat) (c-((i:Int)).toNat))=.slice (gR A c 1 i) ((bs.drop i).take n).length (c-i):=by
 subst hj;have:((bs.drop i).take n).length=n:=by simp;omega
 rw[this];simp;omega
def str (bs:List UInt8):ByteArray:=⟨bs.toArray⟩
theorem kC (bs:List UInt8):(str bs).data.toList=bs:=rfl
end Go.Proofs.YtkjabaihpkbfhaaGreat.Wk
namespace Go.Proofs.YtkjabaihpkbfhaaGreat.Wk
open Go Go.RowKit Go.Proofs.YtkjabaihpkbfhaaGreat Go.Proofs.YtkjabaihpkbfhaaGreat.K Go.Proofs.YtkjabaihpkbfhaaGreat.T
theorem ll (W:World)(A:Option Addr)(c:Nat)(bs:List UInt8)(hR:Rd W 1 (.slice A bs.length c) bs.length (bs.map ao))(hn:bs.length≤140737488355328):Calls Tryz.prog 146 #[.slice A bs.length c] W fun e w'=>∃A' c',e=.returned (.slice A' bs.length c')∧Sat W w' [row 5 1 (.slice A' (bs).length c') (bs).length ((bs).map ao)]:=by
 refine enter Tryz.func146 rfl rfl rfl (.cons (i:=0) rfl .nil) ?_;have hS:=Sat.start W;refine uC 9 ?_;refine lv 0 0 (wC rfl rfl cR) ?_ ?_
 ·intro h4;refine uO 10 ?_;refine bt ?_;obtain rfl:A=none:=by simpa using h4
  obtain⟨h1,h2⟩:=hR.nil;obtain rfl:bs=[]:=List.eq_nil_of_length_eq_zero h1;exact⟨none,0,rfl,hS.bp _ _⟩
 ·intro h4;refine uO 7 ?_;intro a hA;refine Dx hA rfl cR uu hS ?_;clear hA a hS;intro A5 w hS;refine uO 1 ?_;intro a hA;refine eP hA rfl rfl rfl cR uu rfl hS ((hR.sat hS).src cR (ri bs)) (by omega) (by omega) ?_;clear hA a hS;intro A7 c7 w hc7 hS;refine uO 4 ?_;refine bt ?_;simp only[Nat.zero_add,List.nil_append]at hS ⊢;exact⟨_,_,rfl,hS⟩
theorem pV (W w:World)(L:List As)(A:Option Addr)(c:Nat)(bs:List UInt8)(B:Option Addr)(d:Nat)(b:List UInt8)(hS:Sat W w (row 5 1 (.slice A (bs).length c) (bs).length ((bs).map ao)::L))(hR:∀w' M,Sat W w' (M::L)→Rd w' 1 (.slice B b.length d) b.length (b.map ao))(hl:bs.length+b.length≤140737488354000):Calls Tryz.prog 145 #[.slice A bs.length c,.slice B b.length d] w fun e w'=>∃A' c',e=.returned (.slice A' (bs++(aY b.length++b)).length c')∧Sat W w' (row 5 1 (.slice A' (bs++(aY b.length++b)).length c') (bs++(aY b.length++b)).length ((bs++(aY b.length++b)).map ao)::L):=by
 refine enter Tryz.func145 rfl rfl rfl (.cons (i:=0) rfl (.cons (i:=1) rfl .nil)) ?_;refine uC 9 ?_;refine u1 0 (au rfl cR) ?_;refine uF xr rfl (gX _ _ _ _ _ _ b.length hS (by omega) (by omega)) ?_;clear hS;rintro e w ⟨A1,c1,rfl,hS⟩;have h9:=ck (n:=b.length) (by omega);have h8:(bs++aY b.length).length=bs.length+(aY b.length).length:=by simp
 refine⟨_,rfl,?_⟩;refine uO 1 ?_;intro a hA;refine eP hA rfl rfl rfl cR uu rfl hS ((hR _ _ hS).src cR (ri b)) (by omega) (by omega) ?_;clear hA a hS;intro A10 c10 w hc10 hS;refine uO 4 ?_;refine bt ?_;have e1:(bs++aY b.length).length+b.length=(bs++(aY b.length++b)).length:=by simp;omega
 rw[e1,←List.map_append,List.append_assoc]at hS;rw[e1];exact⟨_,_,rfl,hS⟩
theorem rR (W w:World)(L:List As)(A:Option Addr)(c:Nat)(bs:List UInt8)(s:ByteArray)(hS:Sat W w (row 5 1 (.slice A (bs).length c) (bs).length ((bs).map ao)::L))(hl:bs.length+s.size≤140737488354000):Calls Tryz.prog 412 #[.slice A bs.length c,.string s] w fun e w'=>∃A' c',e=.returned (.slice A' (bs++(aY s.data.toList.length++s.data.toList)).length c')∧Sat W w' (row 5 1 (.slice A' (bs++(aY s.data.toList.length++s.data.toList)).length c') (bs++(aY s.data.toList.length++s.data.toList)).length ((bs++(aY s.data.toList.length++s.data.toList)).map ao)::L):=by
 refine enter Tryz.func412 rfl rfl rfl (.cons (i:=0) rfl (.cons (i:=1) rfl .nil)) ?_;have hsz:s.data.toList.length=s.size:=rfl;refine uC 9 ?_;refine u1 0 (nw rfl Bj) ?_;refine uF xr rfl (gX _ _ _ _ _ _ s.size hS (by omega) (by omega)) ?_;clear hS;rintro e w ⟨A1,c1,rfl,hS⟩;have h9:=ck (n:=s.size) (by omega);have h8:(bs++aY s.size).length=bs.length+(aY s.size).length:=by simp
 refine⟨_,rfl,?_⟩;refine uO 1 ?_;intro a hA;refine eP hA rfl rfl rfl cR uu rfl hS (Src.ofString _ Bj s) (by omega) (by omega) ?_;clear hA a hS;intro A10 c10 w hc10 hS;refine uO 4 ?_;refine bt ?_;have e1:(bs++aY s.size).length+s.size=(bs++(aY s.data.toList.length++s.data.toList)).length:=by simp[hsz];omega
 rw[e1,sW,←List.map_append,List.append_assoc]at hS;rw[e1];exact⟨_,_,rfl,hS⟩
end Go.Proofs.YtkjabaihpkbfhaaGreat.Wk
namespace Go.Proofs.YtkjabaihpkbfhaaGreat.Wk
open Go Go.RowKit Go.Proofs.YtkjabaihpkbfhaaGreat Go.Proofs.YtkjabaihpkbfhaaGreat.K
def pb (kd n:Int)(b:Bool)(s:ByteArray):List UInt8×Bool:=
 if kd=1 then (if n<0 then ([],false) else (aY n.toNat,true))
 else if kd=2 then ([if b then 1 else 0],true)
 else if kd=3∨kd=4 then (aY s.data.toList.length++s.data.toList,true)
 else ([],true)
theorem BJ {n:Int}{b:Bool}{s:ByteArray}(h:n<0):pb 1 n b s=([],false):=by unfold pb;rw[if_pos rfl,if_pos h]
theorem mZ {n:Int}{b:Bool}{s:ByteArray}(h:¬n<0):pb 1 n b s=(aY n.toNat,true):=by unfold pb;rw[if_pos rfl,if_neg h]
theorem CE {kd n:Int}{b:Bool}{s:ByteArray}(h:kd=3∨kd=4):pb kd n b s=(aY s.data.toList.length++s.data.toList,true):=by unfold pb;rw[if_neg (by omega),if_neg (by omega),if_pos h]
def CL (p:Nat)(A:Option Addr)(c:Nat)(bs:List UInt8)(bad:Bool):As:=aS p (.cells #[.slice A bs.length c,.bool bad] 263)
end Go.Proofs.YtkjabaihpkbfhaaGreat.Wk
namespace Go.Proofs.YtkjabaihpkbfhaaGreat.Wk
open Go Go.RowKit Go.Proofs.YtkjabaihpkbfhaaGreat Go.Proofs.YtkjabaihpkbfhaaGreat.K Go.Proofs.YtkjabaihpkbfhaaGreat.T
theorem di (W:World)   : Calls Tryz.prog 89 #[] W fun e w'=>∃p,e=.returned (.pointer (some ⟨p,0,none⟩))∧Sat W w' [CL p none 0 ([]) false]:=by
 refine enter Tryz.func89 rfl rfl rfl .nil ?_;have hS:=Sat.start W;refine uC 7 ?_;intro a hA;refine o1 0 hA (ax hA rfl Dw) ?_;clear hA a;refine uB rfl hS ?_;clear hS;intro b2 w hS;refine uO 4 ?_;refine bt ?_;exact⟨_,rfl,hS⟩
theorem dD (W w:World)(L:List As)(p:Nat)(A:Option Addr)(c:Nat)(bs:List UInt8)(bad:Bool)(n:Int)(hS:Sat W w (CL p A c (bs) bad::row 5 1 (.slice A (bs).length c) (bs).length ((bs).map ao)::L))(hl:bs.length≤140737488350000)(hn:n≤9223372036854775807):Calls Tryz.prog 90 #[.pointer (some ⟨p,0,none⟩),.int .i64 n] w fun e w'=>e=.returned (.tuple #[])∧∃A' c',Sat W w' (CL p A' c' (bs++(pb 1 n false .empty).1) (bad || !(pb 1 n false .empty).2)::row 5 1 (.slice A' (bs++(pb 1 n false .empty).1).length c') (bs++(pb 1 n false .empty).1).length ((bs++(pb 1 n false .empty).1).map ao)::L):=by
 refine enter Tryz.func90 rfl rfl rfl (.cons (i:=0) rfl (.cons (i:=1) rfl .nil)) ?_;intro a hA;change Sat W w (aS p (.cells #[.slice A bs.length c,.bool bad] 263)::_) at hS;refine rC 4 hA ?_;clear hA a;refine lv 0 0 (qT rfl rfl si) ?_ ?_
 ·intro h5;intro a hA;contradiction
 ·intro h5;refine uO 9 ?_;refine ba 0 0 (aA rfl rfl) ?_ ?_
  ·intro h7;refine uO 6 ?_;refine u1 0 (aI rfl) ?_;refine u1 0 (aa rfl pG) ?_;intro a hA;refine jQ hA rfl rfl zR Co rfl hS rfl ?_;clear hS;intro w hS;refine rO 4 hA ?_;clear hA a;intro a hA;refine fW hA rfl  ?_
   first
    | (rw[BJ (by omega)];refine⟨rfl,A,c,?_⟩;simp only[List.append_nil,Bool.not_false,Bool.or_true];exact hS)
    | (rw[mZ (by omega),Int.toNat_natCast];refine⟨rfl,A1,c1,?_⟩;simp only[Bool.not_true,Bool.or_false];exact hS)
  ·intro h7;refine uO 8 ?_;refine u1 0 (aI rfl) ?_;refine u1 0 (aa rfl gf) ?_;refine u1 0 (ld rfl ed) ?_;obtain⟨m,rfl⟩:=Int.eq_ofNat_of_zero_le (show 0≤n by omega);refine uO 1 ?_;refine uF xr rfl (gX _ _ _ _ _ _ m (hS.p 1) (by omega) (by omega)) ?_;clear hS;rintro e w ⟨A1,c1,rfl,hS⟩;refine⟨_,rfl,?_⟩;refine u1 0 (aI rfl) ?_;refine u1 0 (aa rfl gf) ?_;intro a hA;refine jQ hA rfl rfl ed gl rfl (hS.p 1) rfl ?_;clear hS;intro w hS;refine rO 1 hA ?_;clear hA a;intro a hA;refine dP (e:=.ret) ?_;refine fW hA rfl  ?_
   first
    | (rw[BJ (by omega)];refine⟨rfl,A,c,?_⟩;simp only[List.append_nil,Bool.not_false,Bool.or_true];exact hS)
    | (rw[mZ (by omega),Int.toNat_natCast];refine⟨rfl,A1,c1,?_⟩;simp only[Bool.not_true,Bool.or_false];exact hS)
theorem gA (W w:World)(L:List As)(p:Nat)(A:Option Addr)(c:Nat)(bs:List UInt8)(bad:Bool)(s:ByteArray)(B:Option Addr)(d:Nat)(hS:Sat W w (CL p A c (bs) bad::row 5 1 (.slice A (bs).length c) (bs).length ((bs).map ao)::L))(hl:bs.length≤140737488350000)(hR:∀w' M N,Sat W w' (M::N::L)→Rd w' 1 (.slice B s.data.toList.length d) s.data.toList.length (s.data.toList.map ao))(hl2:bs.length+s.data.toList.length≤140737488350000):Calls Tryz.prog 91 #[.pointer (some ⟨p,0,none⟩),.slice B s.data.toList.length d] w fun e w'=>e=.returned (.tuple #[])∧∃A' c',Sat W w' (CL p A' c' (bs++(pb 4 0 false s).1) bad::row 5 1 (.slice A' (bs++(pb 4 0 false s).1).length c') (bs++(pb 4 0 false s).1).length ((bs++(pb 4 0 false s).1).map ao)::L):=by
 refine enter Tryz.func91 rfl rfl rfl (.cons (i:=0) rfl (.cons (i:=1) rfl .nil)) ?_;intro a hA;change Sat W w (aS p (.cells #[.slice A bs.length c,.bool bad] 263)::_) at hS;refine rC 3 hA ?_;clear hA a;refine lv 0 0 (zJ rfl rfl si) ?_ ?_
 ·intro h5;refine uO 6 ?_;refine u1 0 (aI rfl) ?_;refine u1 0 (aa rfl gf) ?_;refine u1 1 (ld rfl ed) ?_;refine uF Ee rfl (pV _ _ _ _ _ _ B d s.data.toList (hS.p 1) (fun w' M s=>hR w' M _ s) (by omega)) ?_;clear hS;rintro e w ⟨A1,c1,rfl,hS⟩;refine⟨_,rfl,?_⟩;refine u1 0 (aI rfl) ?_;refine u1 0 (aa rfl gf) ?_;intro a hA;refine jQ hA rfl rfl ed gl rfl (hS.p 1) rfl ?_;clear hS;intro w hS;refine rO 1 hA ?_;clear hA a;intro a hA;refine dP (e:=.ret) ?_;refine fW hA rfl  ?_;exact⟨rfl,_,_,hS⟩
 ·intro h5;intro a hA;contradiction
theorem mz (W:World)(W0:World)(L:List As)(p:Nat)(A:Option Addr)(c:Nat)(bs:List UInt8)(bad:Bool)(s0:Sat W0 W (CL p A c (bs) bad::L))(hR:Rd W 1 (.slice A bs.length c) bs.length (bs.map ao))(hl:bs.length≤140737488350000):Calls Tryz.prog 92 #[.pointer (some ⟨p,0,none⟩)] W fun e w'=>∃A' c',e=.returned (.tuple #[.slice A' (if bad then [] else bs).length c',.int .i64 (((if bad then 2 else 0):Nat):Int)])∧Sat W w' [row 5 1 (.slice A' (if bad then [] else bs).length c') (if bad then [] else bs).length ((if bad then [] else bs).map ao)]:=by
 refine enter Tryz.func92 rfl rfl rfl (.cons (i:=0) rfl .nil) ?_;have hS:=Sat.start W;intro a hA;change Sat W0 W (aS p (.cells #[.slice A bs.length c,.bool bad] 263)::L) at s0;refine rC 10 hA ?_;clear hA a;refine lv 0 0 (qT rfl rfl si) ?_ ?_
 ·intro h5;intro a hA;contradiction
 ·intro h5;refine uO 2 ?_;refine u1 0 (aI rfl) ?_;refine u1 0 (aa rfl pG) ?_;refine u1 0 (av rfl zR (s0.mW hS rfl)) ?_;refine lv 0 0 (qD rfl rfl) ?_ ?_
  ·intro h11;refine uO 11 ?_;refine gT ?_
   first
    | (subst h11;exact⟨none,0,rfl,hS.bp 5 1⟩)
    | (subst h11;exact⟨_,_,rfl,hS⟩)
  ·intro h11;refine uO 8 ?_;refine u1 0 (aI rfl) ?_;refine u1 0 (aa rfl gf) ?_;refine u1 0 (av rfl ed (s0.mW hS rfl)) ?_;refine uF Au rfl (ll _ _ _ bs (hR.sat hS) (by omega)) ?_;rintro e w ⟨A1,c1,rfl,hT⟩;replace hS:=hS.ay hT;clear hT;refine⟨_,rfl,?_⟩;refine uO 5 ?_;refine gT ?_
   first
    | (subst h11;exact⟨none,0,rfl,hS.bp 5 1⟩)
    | (subst h11;exact⟨_,_,rfl,hS⟩)
end Go.Proofs.YtkjabaihpkbfhaaGreat.Wk
namespace Go.Proofs.YtkjabaihpkbfhaaGreat.Wk
open Go Go.RowKit Go.Proofs.YtkjabaihpkbfhaaGreat Go.Proofs.YtkjabaihpkbfhaaGreat.K
def eR (r:Nat)(A:Option Addr)(c:Nat)(bs:List UInt8)(at_:Int)(live:Bool)(err:Int):As:=aS r (.cells #[.slice A bs.length c,.int .i64 at_,.bool live,.int .i64 err] 269)
def ye (bs:List UInt8)(i:Nat)(each:Int):Nat×Nat×Nat:=if (dI bs i).2.2≠0 then (0,0,(dI bs i).2.2) else if ((bs.length:Int)-((dI bs i).2.1:Int)) / max each 1<((dI bs i).1:Int) then (0,0,50) else ((dI bs i).1,(dI bs i).2.1,0)
theorem w0 {bs:List UInt8}{i:Nat}{each:Int}(h:(dI bs i).2.2≠0):ye bs i each=(0,0,(dI bs i).2.2):=if_pos h
theorem sb {bs:List UInt8}{i:Nat}{each:Int}(h:(dI bs i).2.2=0)(h2:((bs.length:Int)-((dI bs i).2.1:Int)) / max each 1<((dI bs i).1:Int)):ye bs i each=(0,0,50):=by unfold ye;rw[if_neg (by omega),if_pos h2]
theorem wj {bs:List UInt8}{i:Nat}{each:Int}(h:(dI bs i).2.2=0)(h2:¬((bs.length:Int)-((dI bs i).2.1:Int)) / max each 1<((dI bs i).1:Int)):ye bs i each=((dI bs i).1,(dI bs i).2.1,0):=by unfold ye;rw[if_neg (by omega),if_neg h2]
theorem td {bs:List UInt8}{i:Nat}:(eQ bs i 9223372036854775807).2.2=(dI bs i).2.2∧((dI bs i).2.2=0→(eQ bs i 9223372036854775807).1=(dI bs i).1∧(eQ bs i 9223372036854775807).2.1=(dI bs i).2.1):=by
 by_cases h:(dI bs i).2.2=0
 ·
  have:=(oa h).2.2.1;rw[rF h (by omega)];exact⟨h.symm,fun _=>⟨rfl,rfl⟩⟩
 ·
  rw[pA h];exact⟨rfl,fun h'=>absurd h' h⟩
theorem xQ {w:World}{A:Option Addr}{c:Nat}{bs:List UInt8}{i:Nat}{mo:Int}(h:Rd w 1 (.slice A bs.length c) bs.length (bs.map ao))(hi:i≤bs.length)(h0:(ku bs i mo).2.2=0) :
 Rd w 1 (.slice (gR A c 1 (eQ bs i mo).2.1) (ku bs i mo).1.length (c-(eQ bs i mo).2.1)) (ku bs i mo).1.length ((ku bs i mo).1.map ao):=by
 rcases xk (mo:=mo) hi with hu | ⟨hu,h1,h2,h3⟩
 ·
  rw[pH hu]at h0;exact absurd h0 hu
 ·
  by_cases h4:(eQ bs i mo).1≤bs.length-(eQ bs i mo).2.1
  ·
   rw[pT hu h4];exact zz h _ _ (by omega)
  ·
   rw[lz hu (by omega)]at h0;cases h0
end Go.Proofs.YtkjabaihpkbfhaaGreat.Wk
namespace Go.Proofs.YtkjabaihpkbfhaaGreat.Wk
open Go Go.RowKit Go.Proofs.YtkjabaihpkbfhaaGreat Go.Proofs.YtkjabaihpkbfhaaGreat.K Go.Proofs.YtkjabaihpkbfhaaGreat.T
theorem gq (W:World)(W0:World)(L:List As)(r:Nat)(A:Option Addr)(c:Nat)(bs:List UInt8)(at_:Int)(live:Bool)(err:Int)(s0:Sat W0 W (eR r A c bs at_ live err::L))(he:err=0):Calls Tryz.prog 149 #[.pointer (some ⟨r,0,none⟩)] W fun e w'=>e=.returned (.bool live)∧Sat W w' []:=by
 refine enter Tryz.func149 rfl rfl rfl (.cons (i:=0) rfl .nil) ?_;have hS:=Sat.start W;intro a hA;change Sat W0 W (aS r (.cells #[.slice A bs.length c,.int .i64 at_,.bool live,.int .i64 err] 269)::L) at s0;subst he;refine rC 9 hA ?_;clear hA a;refine lv 0 0 (qT rfl rfl Aj) ?_ ?_
 ·intro h4;intro a hA;contradiction
 ·intro h4;refine uO 2 ?_;refine u1 0 (aI rfl) ?_;refine u1 0 (aa rfl j4) ?_;refine u1 0 (av rfl zR (s0.mW hS rfl)) ?_;refine lv 0 0 (aR rfl) ?_ ?_
  ·intro h10;intro a hA;simp only[decide_eq_decide,decide_eq_true_eq,decide_eq_false_iff_not,Bool.not_eq_true',Bool.not_eq_false',bne_iff_ne,ne_eq,beq_iff_eq,Bool.not_eq_true,Bool.not_eq_false]at h10;refine rO 11 hA ?_;clear hA a;refine bt ?_
   first
    | (subst h9;exact⟨rfl,hS⟩)
    | (cases live<;>first | exact⟨rfl,hS⟩ | simp_all)
  ·intro h10;intro a hA;simp only[decide_eq_decide,decide_eq_true_eq,decide_eq_false_iff_not,Bool.not_eq_true',Bool.not_eq_false',bne_iff_ne,ne_eq,beq_iff_eq,Bool.not_eq_true,Bool.not_eq_false]at h10;refine rO 10 hA ?_;clear hA a;refine u1 0 (aI rfl) ?_;refine u1 0 (aa rfl dX) ?_;refine u1 0 (av rfl fZ (s0.mW hS rfl)) ?_;refine ba 0 0 (aD rfl rfl) ?_ ?_
   ·intro h16;intro a hA;contradiction
   ·intro h16;refine uO 11 ?_;refine bt ?_
    first
     | (subst h9;exact⟨rfl,hS⟩)
     | (cases live<;>first | exact⟨rfl,hS⟩ | simp_all)
theorem fP (W w:World)(L:List As)(r:Nat)(A:Option Addr)(c:Nat)(bs:List UInt8)(at_:Nat)(er:Int)(hS:Sat W w (eR r A c bs at_ true 0::L))  : Calls Tryz.prog 151 #[.pointer (some ⟨r,0,none⟩),.int .i64 er] w fun e w'=>te (.iface 271 (.agg #[.pointer (some ⟨r,0,none⟩)])) e∧Sat W w' (eR r A c bs at_ true er::L):=by
 refine enter Tryz.func151 rfl rfl rfl (.cons (i:=0) rfl (.cons (i:=1) rfl .nil)) ?_;intro a hA;change Sat W w (aS r (.cells #[.slice A bs.length c,.int .i64 (at_:Int),.bool true,.int .i64 0] 269)::L) at hS;refine rC 4 hA ?_;clear hA a;refine u1 0 (aI rfl) ?_;refine u1 0 (aa rfl dX) ?_;intro a hA;refine jQ hA rfl rfl fZ oN rfl hS rfl ?_;clear hS;intro w hS;refine rO 4 hA ?_;clear hA a;intro a hA;refine o1 0 hA (ax hA rfl BW) ?_;clear hA a;refine u1 0 (tX rfl qG) ?_;intro a hA;refine FW hA rfl ?_;refine bV hA ?_;exact⟨te.one _,hS⟩
theorem mu (W w:World)(L:List As)(r:Nat)(A:Option Addr)(c:Nat)(bs:List UInt8)(at_:Nat)(mo:Int)(hS:Sat W w (eR r A c bs at_ true 0::L))(hat:at_≤bs.length)(hb:bs.length≤140737488355328)(hR:∀w,Sat W w L→Rd w 1 (.slice A bs.length c) bs.length (bs.map ao)):Calls Tryz.prog 100 #[.pointer (some ⟨r,0,none⟩),.int .i64 mo] w fun e w'=>(((eQ bs at_ mo).2.2=0)∧e=.returned (.int .i64 (((eQ bs at_ mo).1:Nat):Int))∧Sat W w' (eR r A c bs ((eQ bs at_ mo).2.1:Nat) true 0::L))∨(((eQ bs at_ mo).2.2≠0)∧te (.iface 271 (.agg #[.pointer (some ⟨r,0,none⟩)])) e∧∃at',Sat W w' (eR r A c bs at' true ((eQ bs at_ mo).2.2:Nat)::L)):=by
 refine enter Tryz.func100 rfl rfl rfl (.cons (i:=0) rfl (.cons (i:=1) rfl .nil)) ?_;intro a hA;change Sat W w (aS r (.cells #[.slice A bs.length c,.int .i64 (at_:Int),.bool true,.int .i64 0] 269)::L) at hS;refine rC 9 hA ?_;clear hA a;refine uF uM rfl (gq _ _ _ r A c bs at_ true 0 hS rfl) ?_;rintro e w ⟨rfl,hT⟩;replace hS:Sat _ _ (_::_):=hS.ah hT;clear hT;refine⟨_,rfl,?_⟩;refine lv 0 0 (aR rfl) ?_ ?_
 ·intro h10;intro a hA;simp only[decide_eq_decide,decide_eq_true_eq,decide_eq_false_iff_not,Bool.not_eq_true',Bool.not_eq_false',bne_iff_ne,ne_eq,beq_iff_eq,Bool.not_eq_true,Bool.not_eq_false]at h10;contradiction
 ·intro h10;intro a hA;simp only[decide_eq_decide,decide_eq_true_eq,decide_eq_false_iff_not,Bool.not_eq_true',Bool.not_eq_false',bne_iff_ne,ne_eq,beq_iff_eq,Bool.not_eq_true,Bool.not_eq_false]at h10;refine rO 6 hA ?_;clear hA a;intro a hA;refine bB [8] hS (by kernel_rfl) ?_;replace hS:=hS.drew;refine rX [0] hA ?_;clear hA a;refine bF 1 [] rfl (fun w=>(aI rfl)) ?_;refine bF 2 [] rfl (fun w=>(aa rfl eH)) ?_;refine dH 3 [4] rfl (by exact⟨[],hS⟩) (fun w hT=>have hS:=hT.sat;(ld rfl ed)) ?_;refine bF 5 [] rfl (fun w=>(aI rfl)) ?_;refine bF 6 [] rfl (fun w=>(aa rfl fC)) ?_;refine dH 7 [] rfl (by exact⟨[],hS⟩) (fun w hT=>have hS:=hT.sat;(ld rfl bq)) ?_;intro a hA;refine aG 8 (by kernel_rfl) ?_;refine eF hA rfl rfl Fl rfl (sV _ A c bs at_ (hR _ hS.drop) hat hb) ?_
  clear hA a;rintro e w ⟨rfl,hT⟩;replace hS:Sat _ _ (_::_):=hS.ah hT;clear hT;refine⟨_,rfl,?_⟩;intro a hA;refine⟨.inl rfl,?_⟩;refine rX [9] hA ?_;clear hA a;refine bF 10 [] rfl (fun w=>(ak rfl rfl)) ?_;refine bF 11 [] rfl (fun w=>(ak rfl rfl)) ?_;refine bF 12 [13,14,15] rfl (fun w=>(ak rfl rfl)) ?_;intro a hA;refine ai (by kernel_rfl) ?_ _;refine rE 5 hA ?_;clear hA a;refine ba 0 0 (aD rfl rfl) ?_ ?_
  ·intro h25;refine uO 6 ?_;intro a hA;refine cJ hA rfl sy rfl (fP _ _ _ r _ c bs at_ _ hS) ?_;rintro e w ⟨⟨older,rfl,ho⟩,hS⟩
   ·refine .inr ⟨_,rfl,?_⟩;refine rE 1 hA ?_;clear hA a;intro a hA;refine bV hA ?_;have hu:=pA (mo:=mo) (show (dI bs at_).2.2≠0 by omega);rw[hu];exact .inr ⟨(by omega:(dI bs at_).2.2≠0),⟨older,rfl,ho⟩,_,hS⟩
  ·intro h25;refine uO 5 ?_;intro a hA;replace hA:=hA.kp [0,1,4,5,6] rfl;refine rC 5 hA ?_;clear hA a;refine ba 0 0 (dW rfl rfl) ?_ ?_
   ·intro h31;refine uO 5 ?_;intro a hA;refine cJ hA rfl sy rfl (fP _ _ _ r _ c bs at_ 51 hS) ?_;rintro e w ⟨⟨older,rfl,ho⟩,hS⟩
    ·refine .inr ⟨_,rfl,?_⟩;refine rE 1 hA ?_;clear hA a;intro a hA;refine bV hA ?_;have hu:=ru (mo:=mo) (show (dI bs at_).2.2=0 by omega) (by omega);rw[hu];exact .inr ⟨(by decide:(51:Nat)≠0),⟨older,rfl,ho⟩,_,hS⟩
   ·intro h31;refine uO 9 ?_;refine u1 0 (aI rfl) ?_;refine u1 0 (aa rfl fC) ?_;intro a hA;refine jQ hA rfl rfl bq kz rfl hS rfl ?_;clear hS;intro w hS;refine rO 9 hA ?_;clear hA a;refine bt ?_;have hu:=rF (mo:=mo) (show (dI bs at_).2.2=0 by omega) (by omega);rw[hu];exact .inl ⟨rfl,rfl,hS⟩
theorem qX (W w:World)(L:List As)(r:Nat)(A:Option Addr)(c:Nat)(bs:List UInt8)(at_:Nat)(mo:Int)(hS:Sat W w (eR r A c bs at_ true 0::L))(hat:at_≤bs.length)(hb:bs.length≤140737488355328)(hR:∀w,Sat W w L→Rd w 1 (.slice A bs.length c) bs.length (bs.map ao)):Calls Tryz.prog 152 #[.pointer (some ⟨r,0,none⟩),.int .i64 mo] w fun e w'=>(((ku bs at_ mo).2.2=0)∧e=.returned (.slice (gR A c 1 (eQ bs at_ mo).2.1) (ku bs at_ mo).1.length (c-(eQ bs at_ mo).2.1))∧Sat W w' (eR r A c bs ((ku bs at_ mo).2.1:Nat) true 0::L))∨(((ku bs at_ mo).2.2≠0)∧te (.iface 271 (.agg #[.pointer (some ⟨r,0,none⟩)])) e∧∃at',Sat W w' (eR r A c bs at' true ((ku bs at_ mo).2.2:Nat)::L)):=by
 refine enter Tryz.func152 rfl rfl rfl (.cons (i:=0) rfl (.cons (i:=1) rfl .nil)) ?_;intro a hA;change Sat W w (aS r (.cells #[.slice A bs.length c,.int .i64 (at_:Int),.bool true,.int .i64 0] 269)::L) at hS;refine rC 9 hA ?_;clear hA a;intro a hA;refine cJ hA rfl fk rfl (mu _ _ _ r A c bs at_ mo hS hat hb hR) ?_;rintro e w (⟨hu0,rfl,hS⟩ | ⟨hu0,⟨older,rfl,ho⟩,at',hS⟩)
 ·change Sat W w (aS r (.cells #[.slice A bs.length c,.int .i64 ((eQ bs at_ mo).2.1:Nat),.bool true,.int .i64 0] 269)::L) at hS;obtain⟨hu1,hu2,hu3⟩:at_<(eQ bs at_ mo).2.1∧(eQ bs at_ mo).2.1≤bs.length∧(eQ bs at_ mo).1≤9223372036854775807:=by rcases xk (mo:=mo) hat with h | ⟨_,h⟩;exact absurd hu0 h;exact h
  obtain⟨_,c_,hc0,hcc⟩:=(hR _ hS.drop).form;have hcc:bs.length≤c:=by injection hc0;omega
  refine .inl ⟨_,rfl,?_⟩;clear hA a;refine uO 5 ?_;intro a hA;refine cZ (fun w'=>Sat _ w' _) (by kernel_rfl) (by kernel_rfl) hS.drew ?_;refine rQ 2 hA ?_;clear hA a;refine bC 0 (fun w hS=>(aI rfl)) ?_;refine bC 0 (fun w hS=>(aa rfl eH)) ?_;refine bC 0 (fun w hS=>(ld rfl ed)) ?_;refine bC 1 (fun w hS=>(au rfl cR)) ?_;refine bC 0 (fun w hS=>(aI rfl)) ?_;refine bC 0 (fun w hS=>(aa rfl fC)) ?_;refine bC 0 (fun w hS=>(ld rfl bq)) ?_;refine bC 0 (fun w hS=>(bJ rfl rfl (by omega) (by omega))) ?_;intro a hA;refine K.sq hA rfl rfl rfl (fun w hS=>(dW (hA.ev rfl) (hA.ev rfl))) ?_ ?_
  ·clear hA a;intro h20;intro a hA;refine wpQuiet_nil ?_;clear hS;intro w hS;refine rE 4 hA ?_;clear hA a;intro a hA;refine cJ hA rfl sy rfl (fP _ _ _ r _ c bs _ 50 hS) ?_;rintro e w ⟨⟨older,rfl,ho⟩,hS⟩
   ·refine .inr ⟨_,rfl,?_⟩;refine rE 1 hA ?_;clear hA a;intro a hA;refine bV hA ?_;rw[lz hu0 (by omega)];exact .inr ⟨(by decide:(50:Nat)≠0),⟨older,rfl,ho⟩,_,hS⟩
  ·clear hA a;intro h20;intro a hA;refine wpQuiet_nil ?_;clear hS;intro w hS;refine rE 7 hA ?_;clear hA a;refine u1 0 (aI rfl) ?_;refine u1 0 (aa rfl fC) ?_;refine u1 1 (ld rfl bq) ?_;refine u1 0 (aH (aj rfl rfl (by omega) (by omega)) (show _=Value.int .i64 (((eQ bs at_ mo).2.1+(eQ bs at_ mo).1:Nat):Int) from by rw[Int.natCast_add])) ?_;refine u1 0 (aI rfl) ?_;refine u1 0 (aa rfl fC) ?_;intro a hA;refine jQ hA rfl rfl bq kz rfl hS rfl ?_;clear hS;intro w hS;refine rO 2 hA ?_;clear hA a;intro a hA;replace hA:=hA.kp [0,4,5] rfl;refine rC 1 hA ?_;clear hA a;intro a hA;refine cZ (fun w'=>Sat _ w' _) (by kernel_rfl) (by kernel_rfl) hS.drew ?_;refine rQ 1 hA ?_;clear hA a
   refine bC 0 (fun w hS=>(aI rfl)) ?_;refine bC 0 (fun w hS=>(aa rfl eH)) ?_;refine bC 1 (fun w hS=>(ld rfl ed)) ?_;refine bC 0 (fun w hS=>(aI rfl)) ?_;refine bC 0 (fun w hS=>(aa rfl fC)) ?_;refine bC 1 (fun w hS=>(ld rfl bq)) ?_;refine bC 1 (fun w hS=>(aH (bJ rfl rfl (by omega) (by omega)) (show _=Value.int .i64 ((eQ bs at_ mo).2.1:Int) from by congr 1;omega))) ?_;refine bC 0 (fun w hS=>(aI rfl)) ?_;refine bC 0 (fun w hS=>(aa rfl fC)) ?_;refine bC 0 (fun w hS=>(ld rfl bq)) ?_;refine bC 1 (fun w hS=>(aH (wS rfl rfl rfl cR DH (by omega) (by omega) (by omega)) (zd (bs:=bs) (n:=(eQ bs at_ mo).1) rfl (by omega)))) ?_;intro a hA;refine wpQuiet_nil ?_;clear hS;intro w hS;refine rE 2 hA ?_;clear hA a;refine bt ?_;rw[pT hu0 (by omega)];exact .inl ⟨rfl,rfl,hS⟩
 ·refine .inr ⟨_,rfl,?_⟩;refine rE 1 hA ?_;clear hA a;intro a hA;refine bV hA ?_;rw[pH hu0];exact .inr ⟨hu0,⟨older,rfl,ho⟩,_,hS⟩
theorem tj (W w:World)(L:List As)(r:Nat)(A:Option Addr)(c:Nat)(bs:List UInt8)(at_:Nat)(ea:Int)(hS:Sat W w (eR r A c bs at_ true 0::L))(hat:at_≤bs.length)(hb:bs.length≤140737488355328)(hR:∀w,Sat W w L→Rd w 1 (.slice A bs.length c) bs.length (bs.map ao))(hea:ea≤9223372036854775807):Calls Tryz.prog 102 #[.pointer (some ⟨r,0,none⟩),.int .i64 ea] w fun e w'=>(((ye bs at_ ea).2.2=0)∧e=.returned (.int .i64 (((ye bs at_ ea).1:Nat):Int))∧Sat W w' (eR r A c bs ((ye bs at_ ea).2.1:Nat) true 0::L))∨(((ye bs at_ ea).2.2≠0)∧te (.iface 271 (.agg #[.pointer (some ⟨r,0,none⟩)])) e∧∃at',Sat W w' (eR r A c bs at' true ((ye bs at_ ea).2.2:Nat)::L)):=by
 refine enter Tryz.func102 rfl rfl rfl (.cons (i:=0) rfl (.cons (i:=1) rfl .nil)) ?_;intro a hA;change Sat W w (aS r (.cells #[.slice A bs.length c,.int .i64 (at_:Int),.bool true,.int .i64 0] 269)::L) at hS;refine rC 9 hA ?_;clear hA a;refine uF uM rfl (gq _ _ _ r A c bs at_ true 0 hS rfl) ?_;rintro e w ⟨rfl,hT⟩;replace hS:Sat _ _ (_::_):=hS.ah hT;clear hT;refine⟨_,rfl,?_⟩;refine lv 0 0 (aR rfl) ?_ ?_
 ·intro h8;intro a hA;simp only[decide_eq_decide,decide_eq_true_eq,decide_eq_false_iff_not,Bool.not_eq_true',Bool.not_eq_false',bne_iff_ne,ne_eq,beq_iff_eq,Bool.not_eq_true,Bool.not_eq_false]at h8;contradiction
 ·intro h8;intro a hA;simp only[decide_eq_decide,decide_eq_true_eq,decide_eq_false_iff_not,Bool.not_eq_true',Bool.not_eq_false',bne_iff_ne,ne_eq,beq_iff_eq,Bool.not_eq_true,Bool.not_eq_false]at h8;refine rO 8 hA ?_;clear hA a;intro a hA;refine cJ hA rfl fk rfl (mu _ _ _ r A c bs at_ 9223372036854775807 hS hat hb hR) ?_;obtain⟨hm1,hm2⟩:=td (bs:=bs) (i:=at_);rintro e w (⟨hu0,rfl,hS⟩ | ⟨hu0,⟨older,rfl,ho⟩,at',hS⟩)
  ·rw[hm1]at hu0;rw[(hm2 hu0).2]at hS;have hok:=oa hu0;change Sat W w (aS r (.cells #[.slice A bs.length c,.int .i64 ((dI bs at_).2.1:Nat),.bool true,.int .i64 0] 269)::L) at hS;rw[(hm2 hu0).1];refine .inl ⟨_,rfl,?_⟩;clear hA a;refine uO 5 ?_;intro a hA;refine cZ (fun w'=>Sat _ w' _) (by kernel_rfl) (by kernel_rfl) hS.drew ?_;refine rQ 2 hA ?_;clear hA a;refine bC 0 (fun w hS=>(aI rfl)) ?_;refine bC 0 (fun w hS=>(aa rfl eH)) ?_;refine bC 0 (fun w hS=>(ld rfl ed)) ?_;refine bC 1 (fun w hS=>(au rfl cR)) ?_;refine bC 0 (fun w hS=>(aI rfl)) ?_;refine bC 0 (fun w hS=>(aa rfl fC)) ?_;refine bC 0 (fun w hS=>(ld rfl bq)) ?_;refine bC 1 (fun w hS=>(bJ rfl rfl (by omega) (by omega))) ?_;refine bC 0 (fun w hS=>(tP rfl rfl)) ?_;refine bC 0 (fun w hS=>(xb rfl rfl (by omega) (by omega) (by omega))) ?_;intro a hA
   refine K.sq hA rfl rfl rfl (fun w hS=>(dW (hA.ev rfl) (hA.ev rfl))) ?_ ?_
   ·clear hA a;intro h25;intro a hA;refine wpQuiet_nil ?_;clear hS;intro w hS;refine rE 4 hA ?_;clear hA a;intro a hA;refine cJ hA rfl sy rfl (fP _ _ _ r _ c bs _ 50 hS) ?_;rintro e w ⟨⟨older,rfl,ho⟩,hS⟩
    ·refine .inr ⟨_,rfl,?_⟩;refine rE 1 hA ?_;clear hA a;intro a hA;refine bV hA ?_;rw[sb hu0 (by omega)];exact .inr ⟨(by decide:(50:Nat)≠0),⟨older,rfl,ho⟩,_,hS⟩
   ·clear hA a;intro h25;intro a hA;refine wpQuiet_nil ?_;clear hS;intro w hS;refine rE 4 hA ?_;clear hA a;intro a hA;replace hA:=hA.kp [4,5] rfl;refine rC 7 hA ?_;clear hA a;refine bt ?_;rw[wj hu0 (by omega)];exact .inl ⟨rfl,rfl,hS⟩
  ·refine .inr ⟨_,rfl,?_⟩;refine rE 1 hA ?_;clear hA a;intro a hA;refine bV hA ?_;rw[hm1]at hu0 hS;rw[w0 hu0];exact .inr ⟨hu0,⟨older,rfl,ho⟩,_,hS⟩
theorem vh (W w:World)(L:List As)(r:Nat)(A:Option Addr)(c:Nat)(bs:List UInt8)(at_:Nat)(mo:Int)(hS:Sat W w (eR r A c bs at_ true 0::L))(hat:at_≤bs.length)(hb:bs.length≤140737488355328)(hR:∀w,Sat W w L→Rd w 1 (.slice A bs.length c) bs.length (bs.map ao)):Calls Tryz.prog 394 #[.pointer (some ⟨r,0,none⟩),.int .i64 mo] w fun e w'=>(((ku bs at_ mo).2.2=0)∧e=.returned (.string (str (ku bs at_ mo).1))∧Sat W w' (eR r A c bs ((ku bs at_ mo).2.1:Nat) true 0::L))∨(((ku bs at_ mo).2.2≠0)∧te (.iface 271 (.agg #[.pointer (some ⟨r,0,none⟩)])) e∧∃at',Sat W w' (eR r A c bs at' true ((ku bs at_ mo).2.2:Nat)::L)):=by
 refine enter Tryz.func394 rfl rfl rfl (.cons (i:=0) rfl (.cons (i:=1) rfl .nil)) ?_;intro a hA;change Sat W w (aS r (.cells #[.slice A bs.length c,.int .i64 (at_:Int),.bool true,.int .i64 0] 269)::L) at hS;refine rC 9 hA ?_;clear hA a;refine uF uM rfl (gq _ _ _ r A c bs at_ true 0 hS rfl) ?_;rintro e w ⟨rfl,hT⟩;replace hS:Sat _ _ (_::_):=hS.ah hT;clear hT;refine⟨_,rfl,?_⟩;refine lv 0 0 (aR rfl) ?_ ?_
 ·intro h7;intro a hA;simp only[decide_eq_decide,decide_eq_true_eq,decide_eq_false_iff_not,Bool.not_eq_true',Bool.not_eq_false',bne_iff_ne,ne_eq,beq_iff_eq,Bool.not_eq_true,Bool.not_eq_false]at h7;contradiction
 ·intro h7;intro a hA;simp only[decide_eq_decide,decide_eq_true_eq,decide_eq_false_iff_not,Bool.not_eq_true',Bool.not_eq_false',bne_iff_ne,ne_eq,beq_iff_eq,Bool.not_eq_true,Bool.not_eq_false]at h7;refine rO 9 hA ?_;clear hA a;intro a hA;refine cJ hA rfl Cn rfl (qX _ _ _ r A c bs at_ mo hS hat hb hR) ?_;rintro e w (⟨hu0,rfl,hS⟩ | ⟨hu0,⟨older,rfl,ho⟩,at',hS⟩)
  ·have hpr:=xQ (mo:=mo) (hR _ hS.drop) hat hu0;refine .inl ⟨_,rfl,?_⟩;clear hA a;refine u1 4 (AM rfl cR ry Bj hpr) ?_;refine bt ?_;exact .inl ⟨hu0,rfl,hS⟩
  ·refine .inr ⟨_,rfl,?_⟩;refine rE 1 hA ?_;clear hA a;intro a hA;refine bV hA ?_;exact .inr ⟨hu0,⟨older,rfl,ho⟩,_,hS⟩
theorem tm (W w:World)(L:List As)(r:Nat)(A:Option Addr)(c:Nat)(bs:List UInt8)(at_:Nat)(mo:Int)(hS:Sat W w (eR r A c bs at_ true 0::L))(hat:at_≤bs.length)(hb:bs.length≤140737488355328)(hR:∀w,Sat W w L→Rd w 1 (.slice A bs.length c) bs.length (bs.map ao)):Calls Tryz.prog 103 #[.pointer (some ⟨r,0,none⟩),.int .i64 mo] w fun e w'=>((ku bs at_ mo).2.2=0∧(∃A' c',e=.returned (.slice A' (ku bs at_ mo).1.length c')∧Sat W w' (eR r A c bs ((ku bs at_ mo).2.1:Nat) true 0::row 5 1 (.slice A' ((ku bs at_ mo).1).length c') ((ku bs at_ mo).1).length (((ku bs at_ mo).1).map ao)::L)))∨(((ku bs at_ mo).2.2≠0)∧te (.iface 271 (.agg #[.pointer (some ⟨r,0,none⟩)])) e∧∃at',Sat W w' (eR r A c bs at' true ((ku bs at_ mo).2.2:Nat)::L)):=by
 refine enter Tryz.func103 rfl rfl rfl (.cons (i:=0) rfl (.cons (i:=1) rfl .nil)) ?_;intro a hA;change Sat W w (aS r (.cells #[.slice A bs.length c,.int .i64 (at_:Int),.bool true,.int .i64 0] 269)::L) at hS;refine rC 9 hA ?_;clear hA a;refine uF uM rfl (gq _ _ _ r A c bs at_ true 0 hS rfl) ?_;rintro e w ⟨rfl,hT⟩;replace hS:Sat _ _ (_::_):=hS.ah hT;clear hT;refine⟨_,rfl,?_⟩;refine lv 0 0 (aR rfl) ?_ ?_
 ·intro h7;intro a hA;simp only[decide_eq_decide,decide_eq_true_eq,decide_eq_false_iff_not,Bool.not_eq_true',Bool.not_eq_false',bne_iff_ne,ne_eq,beq_iff_eq,Bool.not_eq_true,Bool.not_eq_false]at h7;contradiction
 ·intro h7;intro a hA;simp only[decide_eq_decide,decide_eq_true_eq,decide_eq_false_iff_not,Bool.not_eq_true',Bool.not_eq_false',bne_iff_ne,ne_eq,beq_iff_eq,Bool.not_eq_true,Bool.not_eq_false]at h7;refine rO 9 hA ?_;clear hA a;intro a hA;refine cJ hA rfl Cn rfl (qX _ _ _ r A c bs at_ mo hS hat hb hR) ?_;rintro e w (⟨hu0,rfl,hS⟩ | ⟨hu0,⟨older,rfl,ho⟩,at',hS⟩)
  ·have hpr:=xQ (mo:=mo) (hR _ hS.drop) hat hu0;refine .inl ⟨_,rfl,?_⟩;clear hA a;refine uF Au rfl (ll _ _ _ (ku bs at_ mo).1 hpr (by have:=xJ (bs:=bs) (i:=at_) (mo:=mo);omega)) ?_;rintro e w ⟨A1,c1,rfl,hT⟩;replace hS:=hS.ay hT;clear hT;refine⟨_,rfl,?_⟩;refine uO 4 ?_;refine bt ?_;exact .inl ⟨hu0,_,_,rfl,hS.p 1⟩
  ·refine .inr ⟨_,rfl,?_⟩;refine rE 1 hA ?_;clear hA a;intro a hA;refine bV hA ?_;exact .inr ⟨hu0,⟨older,rfl,ho⟩,_,hS⟩
theorem bQ (W w:World)(L:List As)(r:Nat)(A:Option Addr)(c:Nat)(bs:List UInt8)(at_:Nat)(er:Int)(hS:Sat W w (eR r A c bs at_ true 0::L))(hat:at_≤bs.length)(hb:bs.length≤140737488355328)(hR:∀w,Sat W w L→Rd w 1 (.slice A bs.length c) bs.length (bs.map ao)):Calls Tryz.prog 101 #[.pointer (some ⟨r,0,none⟩),.int .i64 er] w fun e w'=>te (.iface 271 (.agg #[.pointer (some ⟨r,0,none⟩)])) e∧∃at',Sat W w' (eR r A c bs at' true (if er=0 then 8 else er)::L):=by
 refine enter Tryz.func101 rfl rfl rfl (.cons (i:=0) rfl (.cons (i:=1) rfl .nil)) ?_;intro a hA;change Sat W w (aS r (.cells #[.slice A bs.length c,.int .i64 (at_:Int),.bool true,.int .i64 0] 269)::L) at hS;refine rC 4 hA ?_;clear hA a;refine uF uM rfl (gq _ _ _ r A c bs at_ true 0 hS rfl) ?_;rintro e w ⟨rfl,hT⟩;replace hS:Sat _ _ (_::_):=hS.ah hT;clear hT;refine⟨_,rfl,?_⟩;refine lv 0 0 (aR rfl) ?_ ?_
 ·intro h6;intro a hA;simp only[decide_eq_decide,decide_eq_true_eq,decide_eq_false_iff_not,Bool.not_eq_true',Bool.not_eq_false',bne_iff_ne,ne_eq,beq_iff_eq,Bool.not_eq_true,Bool.not_eq_false]at h6;contradiction
 ·intro h6;intro a hA;simp only[decide_eq_decide,decide_eq_true_eq,decide_eq_false_iff_not,Bool.not_eq_true',Bool.not_eq_false',bne_iff_ne,ne_eq,beq_iff_eq,Bool.not_eq_true,Bool.not_eq_false]at h6;refine rO 9 hA ?_;clear hA a;refine ba 0 0 (bN rfl rfl) ?_ ?_
  ·intro h8;refine uO 10 ?_;intro a hA;refine cJ hA rfl sy rfl (fP _ _ _ r _ c bs _ _ hS) ?_;rintro e w ⟨⟨older,rfl,ho⟩,hS⟩
   ·refine .inr ⟨_,rfl,?_⟩;refine bV hA ?_
    (rw[if_pos h8];exact⟨⟨older,rfl,ho⟩,_,hS⟩)
  ·intro h8;refine uO 8 ?_;intro a hA;refine cJ hA rfl sy rfl (fP _ _ _ r _ c bs _ _ hS) ?_;rintro e w ⟨⟨older,rfl,ho⟩,hS⟩
   ·refine .inr ⟨_,rfl,?_⟩;refine bV hA ?_
    (rw[if_neg h8];exact⟨⟨older,rfl,ho⟩,_,hS⟩)
def oM (c:Option Code):Code:=match c with | some (.seq _ b)=>b | _=>.skip
theorem x6 (W w:World)(L:List As)(r q p:Nat)(A:Option Addr)(n c:Nat)(at_ err e0:Int)(live:Bool)  (hn:n≤140737488355328)(a:Act)(hA:Ag a 59 [(0,.pointer (some ⟨q,0,none⟩)),(1,.pointer (some ⟨p,0,none⟩)),(2,.nilIface)])(hS:Sat W w (aS r (.cells #[.slice A n c,.int .i64 at_,.bool live,.int .i64 err] 269)::aS q (.cells #[.pointer (some ⟨r,0,none⟩)] 196)::aS p (.cells #[.int .i64 e0] 27)::L)):(oM Tryz.f148.body).wp Tryz.prog (bodyPost Tryz.prog Tryz.f148 fun e w'=>e=.returned (.tuple #[])∧Sat W w' (aS r (.cells #[.slice none 0 0,.int .i64 at_,.bool false,.int .i64 err] 269)::aS q (.cells #[.pointer (some ⟨r,0,none⟩)] 196)::aS p (.cells #[.int .i64 (if err≠0 then err else if at_<n then 52 else e0)] 27)::L)) a w:=by
 refine rC 1 hA ?_;clear hA a;intro a hA;refine cZ (fun w'=>Sat _ w' _) (by kernel_rfl) (by kernel_rfl) hS.drew ?_;refine Q1 0 hA (fun w hS=>(av (hA.ev rfl) cw (by exact (hS.p 1).cell rfl))) ?_;clear hA a;refine bC 0 (fun w hS=>(aI rfl)) ?_;refine bC 0 (fun w hS=>(aa rfl fC)) ?_;refine bC 0 (fun w hS=>(ld rfl bq)) ?_;refine bC 0 (fun w hS=>(ld rfl cw)) ?_;refine bC 0 (fun w hS=>(aI rfl)) ?_;refine bC 0 (fun w hS=>(aa rfl eH)) ?_;refine bC 0 (fun w hS=>(ld rfl ed)) ?_;refine bC 0 (fun w hS=>(au rfl cR)) ?_;intro a hA;refine K.sq hA rfl rfl rfl (fun w hS=>(aA (hA.ev rfl) (hA.ev rfl))) ?_ ?_
 ·clear hA a;intro h16;refine uQ 1 ?_;intro a hA;refine wpQuiet_nil ?_;clear hS;intro w hS;refine rE 3 hA ?_;clear hA a;refine u1 0 (ld rfl cw) ?_;refine u1 0 (ld rfl cw) ?_;refine u1 0 (aI rfl) ?_;refine u1 0 (aa rfl j4) ?_;intro a hA;refine jQ hA rfl rfl zR Co rfl hS rfl ?_;clear hS;intro w hS;refine o1 0 hA (aI (hA.ev rfl)) ?_;clear hA a;refine u1 0 (aa rfl eH) ?_;intro a hA;refine jQ hA rfl rfl ed gl rfl hS rfl ?_;clear hS;intro w hS;refine rO 6 hA ?_;clear hA a;refine u1 1 (xS rfl qG (nB l6)) ?_;refine u1 0 (ak rfl rfl) ?_;refine u1 0 (ak rfl rfl) ?_;refine uN l6 hS ?_;clear hS;intro b4 w hS;refine uW (vs:=[_]) (cs':=[_]) rfl rfl so hS ?_;clear hS;intro w hS;refine uO 21 ?_;intro a hA;replace hA:=hA.kp [0,1,2,3,4,41] rfl;refine rC 6 hA ?_;clear hA a
  refine u1 0 (ld rfl cw) ?_;refine u1 0 (aI rfl) ?_;refine u1 0 (aa rfl dX) ?_;refine u1 0 (ld rfl fZ) ?_;refine ba 0 0 (aD rfl rfl) ?_ ?_
  ·intro h49;refine uO 5 ?_;refine u1 0 (ld rfl cw) ?_;refine u1 0 (aI rfl) ?_;refine u1 0 (aa rfl dX) ?_;refine u1 0 (ld rfl fZ) ?_;intro a hA;refine jQ hA rfl rfl fZ oN rfl (hS.p 3) rfl ?_;clear hS;intro w hS;refine rO 2 hA ?_;clear hA a;intro a hA;refine dP (e:=.ret) ?_;refine fW hA rfl  ?_
   first
    | (rw[if_pos h49];exact⟨rfl,(((hS.p 3).p 3).p 3).drop⟩)
    | (rw[if_neg h49,if_pos h16];exact⟨rfl,(((hS.p 3).p 3).p 3).drop⟩)
    | (rw[if_neg h49,if_neg h16];exact⟨rfl,hS.drop⟩)
    | (rw[if_neg h49];exact⟨rfl,(((hS.p 3).p 3).p 3).drop⟩)
  ·intro h49;refine uO 7 ?_;refine u1 12 (xn rfl rfl (show isIface Tryz.prog 20=true by kernel_rfl)) ?_;intro a hA;refine jQ hA rfl rfl fZ oN rfl (hS.p 3) rfl ?_;clear hS;intro w hS;refine rO 2 hA ?_;clear hA a;intro a hA;refine dP (e:=.ret) ?_;refine fW hA rfl  ?_
   first
    | (rw[if_pos h49];exact⟨rfl,(((hS.p 3).p 3).p 3).drop⟩)
    | (rw[if_neg h49,if_pos h16];exact⟨rfl,(((hS.p 3).p 3).p 3).drop⟩)
    | (rw[if_neg h49,if_neg h16];exact⟨rfl,hS.drop⟩)
    | (rw[if_neg h49];exact⟨rfl,(((hS.p 3).p 3).p 3).drop⟩)
 ·clear hA a;intro h16;refine uQ 1 ?_;intro a hA;refine wpQuiet_nil ?_;clear hS;intro w hS;refine rE 3 hA ?_;clear hA a;refine u1 0 (ld rfl cw) ?_;refine u1 0 (ld rfl cw) ?_;refine u1 0 (aI rfl) ?_;refine u1 0 (aa rfl j4) ?_;intro a hA;refine jQ hA rfl rfl zR Co rfl hS rfl ?_;clear hS;intro w hS;refine o1 0 hA (aI (hA.ev rfl)) ?_;clear hA a;refine u1 0 (aa rfl eH) ?_;intro a hA;refine jQ hA rfl rfl ed gl rfl hS rfl ?_;clear hS;intro w hS;refine rO 6 hA ?_;clear hA a;refine u1 1 (xS rfl qG (nB l6)) ?_;refine u1 0 (ak rfl rfl) ?_;refine u1 0 (ak rfl rfl) ?_;refine uN l6 hS ?_;clear hS;intro b4 w hS;refine uW (vs:=[_]) (cs':=[_]) rfl rfl so hS ?_;clear hS;intro w hS;refine uO 21 ?_;intro a hA;replace hA:=hA.kp [0,1,2,3,4,41] rfl;refine rC 6 hA ?_;clear hA a
  refine u1 0 (ld rfl cw) ?_;refine u1 0 (aI rfl) ?_;refine u1 0 (aa rfl dX) ?_;refine u1 0 (ld rfl fZ) ?_;refine ba 0 0 (aD rfl rfl) ?_ ?_
  ·intro h49;refine uO 5 ?_;refine u1 0 (ld rfl cw) ?_;refine u1 0 (aI rfl) ?_;refine u1 0 (aa rfl dX) ?_;refine u1 0 (ld rfl fZ) ?_;intro a hA;refine jQ hA rfl rfl fZ oN rfl (hS.p 3) rfl ?_;clear hS;intro w hS;refine rO 2 hA ?_;clear hA a;intro a hA;refine dP (e:=.ret) ?_;refine fW hA rfl  ?_
   first
    | (rw[if_pos h49];exact⟨rfl,(((hS.p 3).p 3).p 3).drop⟩)
    | (rw[if_neg h49,if_pos h16];exact⟨rfl,(((hS.p 3).p 3).p 3).drop⟩)
    | (rw[if_neg h49,if_neg h16];exact⟨rfl,hS.drop⟩)
    | (rw[if_neg h49];exact⟨rfl,(((hS.p 3).p 3).p 3).drop⟩)
  ·intro h49;refine uO 7 ?_;refine u1 13 (xn rfl rfl (show isIface Tryz.prog 20=true by kernel_rfl)) ?_;intro a hA;refine dP (e:=.ret) ?_;refine fW hA rfl  ?_
   first
    | (rw[if_pos h49];exact⟨rfl,(((hS.p 3).p 3).p 3).drop⟩)
    | (rw[if_neg h49,if_pos h16];exact⟨rfl,(((hS.p 3).p 3).p 3).drop⟩)
    | (rw[if_neg h49,if_neg h16];exact⟨rfl,hS.drop⟩)
    | (rw[if_neg h49];exact⟨rfl,(((hS.p 3).p 3).p 3).drop⟩)
theorem yb (W w:World)(L:List As)(r q p:Nat)(A:Option Addr)(n c:Nat)(at_ err e0:Int)(live:Bool)  (hn:n≤140737488355328)(a:Act)(hA:Ag a 59 [(0,.pointer (some ⟨q,0,none⟩)),(1,.pointer (some ⟨p,0,none⟩)),(2,.iface 271 (.agg #[.pointer (some ⟨r,0,none⟩)]))])(hS:Sat W w (aS r (.cells #[.slice A n c,.int .i64 at_,.bool live,.int .i64 err] 269)::aS q (.cells #[.pointer (some ⟨r,0,none⟩)] 196)::aS p (.cells #[.int .i64 e0] 27)::L)):(oM Tryz.f148.body).wp Tryz.prog (bodyPost Tryz.prog Tryz.f148 fun e w'=>e=.returned (.tuple #[])∧Sat W w' (aS r (.cells #[.slice none 0 0,.int .i64 at_,.bool false,.int .i64 err] 269)::aS q (.cells #[.pointer (some ⟨r,0,none⟩)] 196)::aS p (.cells #[.int .i64 (if err≠0 then err else 8)] 27)::L)) a w:=by
 refine rC 1 hA ?_;clear hA a;intro a hA;refine cZ (fun w'=>Sat _ w' _) (by kernel_rfl) (by kernel_rfl) hS.drew ?_;refine Q1 0 hA (fun w hS=>(av (hA.ev rfl) cw (by exact (hS.p 1).cell rfl))) ?_;clear hA a;refine bC 0 (fun w hS=>(aI rfl)) ?_;refine bC 0 (fun w hS=>(aa rfl fC)) ?_;refine bC 0 (fun w hS=>(ld rfl bq)) ?_;refine bC 0 (fun w hS=>(ld rfl cw)) ?_;refine bC 0 (fun w hS=>(aI rfl)) ?_;refine bC 0 (fun w hS=>(aa rfl eH)) ?_;refine bC 0 (fun w hS=>(ld rfl ed)) ?_;refine bC 0 (fun w hS=>(au rfl cR)) ?_;intro a hA;refine K.sq hA rfl rfl rfl (fun w hS=>(aA (hA.ev rfl) (hA.ev rfl))) ?_ ?_
 ·clear hA a;intro h16;refine uQ 1 ?_;intro a hA;refine wpQuiet_nil ?_;clear hS;intro w hS;refine rE 3 hA ?_;clear hA a;refine u1 0 (ld rfl cw) ?_;refine u1 0 (ld rfl cw) ?_;refine u1 0 (aI rfl) ?_;refine u1 0 (aa rfl j4) ?_;intro a hA;refine jQ hA rfl rfl zR Co rfl hS rfl ?_;clear hS;intro w hS;refine o1 0 hA (aI (hA.ev rfl)) ?_;clear hA a;refine u1 0 (aa rfl eH) ?_;intro a hA;refine jQ hA rfl rfl ed gl rfl hS rfl ?_;clear hS;intro w hS;refine rO 6 hA ?_;clear hA a;refine u1 1 (xN rfl qG) ?_;refine u1 0 (ak rfl rfl) ?_;refine u1 0 (ak rfl rfl) ?_;refine uN l6 hS ?_;clear hS;intro b4 w hS;refine uW (vs:=[_]) (cs':=[_]) rfl rfl so hS ?_;clear hS;intro w hS
  refine uO 7 ?_;refine u1 0 (aa rfl xl) ?_;refine u1 0 (ld rfl cw) ?_;refine u1 0 (ld rfl cw) ?_;refine u1 10 (zr rfl rfl Aj (k:=3) (show (Tryz.prog.info? 269).map (·.size)=some 4 by kernel_rfl)) ?_;intro a hA;replace hA:=hA.kp [0,1,2,3,4,41] rfl;refine rC 6 hA ?_;clear hA a;refine u1 0 (ld rfl cw) ?_;refine u1 0 (aI rfl) ?_;refine u1 0 (aa rfl dX) ?_;refine u1 0 (ld rfl fZ) ?_;refine ba 0 0 (aD rfl rfl) ?_ ?_
  ·intro h49;refine uO 5 ?_;refine u1 0 (ld rfl cw) ?_;refine u1 0 (aI rfl) ?_;refine u1 0 (aa rfl dX) ?_;refine u1 0 (ld rfl fZ) ?_;intro a hA;refine jQ hA rfl rfl fZ oN rfl (hS.p 3) rfl ?_;clear hS;intro w hS;refine rO 2 hA ?_;clear hA a;intro a hA;refine dP (e:=.ret) ?_;refine fW hA rfl  ?_
   first
    | (rw[if_pos h49];exact⟨rfl,(((hS.p 3).p 3).p 3).drop⟩)
    | (rw[if_neg h49,if_pos h16];exact⟨rfl,(((hS.p 3).p 3).p 3).drop⟩)
    | (rw[if_neg h49,if_neg h16];exact⟨rfl,hS.drop⟩)
    | (rw[if_neg h49];exact⟨rfl,(((hS.p 3).p 3).p 3).drop⟩)
  ·intro h49;refine uO 7 ?_;refine u1 5 (ti rfl rfl (show isIface Tryz.prog 20=true by kernel_rfl)) ?_;intro a hA;refine jQ hA rfl rfl fZ oN rfl (hS.p 3) rfl ?_;clear hS;intro w hS;refine rO 2 hA ?_;clear hA a;intro a hA;refine dP (e:=.ret) ?_;refine fW hA rfl  ?_
   first
    | (rw[if_pos h49];exact⟨rfl,(((hS.p 3).p 3).p 3).drop⟩)
    | (rw[if_neg h49,if_pos h16];exact⟨rfl,(((hS.p 3).p 3).p 3).drop⟩)
    | (rw[if_neg h49,if_neg h16];exact⟨rfl,hS.drop⟩)
    | (rw[if_neg h49];exact⟨rfl,(((hS.p 3).p 3).p 3).drop⟩)
 ·clear hA a;intro h16;refine uQ 1 ?_;intro a hA;refine wpQuiet_nil ?_;clear hS;intro w hS;refine rE 3 hA ?_;clear hA a;refine u1 0 (ld rfl cw) ?_;refine u1 0 (ld rfl cw) ?_;refine u1 0 (aI rfl) ?_;refine u1 0 (aa rfl j4) ?_;intro a hA;refine jQ hA rfl rfl zR Co rfl hS rfl ?_;clear hS;intro w hS;refine o1 0 hA (aI (hA.ev rfl)) ?_;clear hA a;refine u1 0 (aa rfl eH) ?_;intro a hA;refine jQ hA rfl rfl ed gl rfl hS rfl ?_;clear hS;intro w hS;refine rO 6 hA ?_;clear hA a;refine u1 1 (xN rfl qG) ?_;refine u1 0 (ak rfl rfl) ?_;refine u1 0 (ak rfl rfl) ?_;refine uN l6 hS ?_;clear hS;intro b4 w hS;refine uW (vs:=[_]) (cs':=[_]) rfl rfl so hS ?_;clear hS;intro w hS
  refine uO 7 ?_;refine u1 0 (aa rfl xl) ?_;refine u1 0 (ld rfl cw) ?_;refine u1 0 (ld rfl cw) ?_;refine u1 10 (zr rfl rfl Aj (k:=3) (show (Tryz.prog.info? 269).map (·.size)=some 4 by kernel_rfl)) ?_;intro a hA;replace hA:=hA.kp [0,1,2,3,4,41] rfl;refine rC 6 hA ?_;clear hA a;refine u1 0 (ld rfl cw) ?_;refine u1 0 (aI rfl) ?_;refine u1 0 (aa rfl dX) ?_;refine u1 0 (ld rfl fZ) ?_;refine ba 0 0 (aD rfl rfl) ?_ ?_
  ·intro h49;refine uO 5 ?_;refine u1 0 (ld rfl cw) ?_;refine u1 0 (aI rfl) ?_;refine u1 0 (aa rfl dX) ?_;refine u1 0 (ld rfl fZ) ?_;intro a hA;refine jQ hA rfl rfl fZ oN rfl (hS.p 3) rfl ?_;clear hS;intro w hS;refine rO 2 hA ?_;clear hA a;intro a hA;refine dP (e:=.ret) ?_;refine fW hA rfl  ?_
   first
    | (rw[if_pos h49];exact⟨rfl,(((hS.p 3).p 3).p 3).drop⟩)
    | (rw[if_neg h49,if_pos h16];exact⟨rfl,(((hS.p 3).p 3).p 3).drop⟩)
    | (rw[if_neg h49,if_neg h16];exact⟨rfl,hS.drop⟩)
    | (rw[if_neg h49];exact⟨rfl,(((hS.p 3).p 3).p 3).drop⟩)
  ·intro h49;refine uO 7 ?_;refine u1 5 (ti rfl rfl (show isIface Tryz.prog 20=true by kernel_rfl)) ?_;intro a hA;refine jQ hA rfl rfl fZ oN rfl (hS.p 3) rfl ?_;clear hS;intro w hS;refine rO 2 hA ?_;clear hA a;intro a hA;refine dP (e:=.ret) ?_;refine fW hA rfl  ?_
   first
    | (rw[if_pos h49];exact⟨rfl,(((hS.p 3).p 3).p 3).drop⟩)
    | (rw[if_neg h49,if_pos h16];exact⟨rfl,(((hS.p 3).p 3).p 3).drop⟩)
    | (rw[if_neg h49,if_neg h16];exact⟨rfl,hS.drop⟩)
    | (rw[if_neg h49];exact⟨rfl,(((hS.p 3).p 3).p 3).drop⟩)
theorem uD (W w:World)(L:List As)(r q p:Nat)(A:Option Addr)(n c:Nat)(at_ err e0:Int)(live:Bool)(tx:TypeId)(vx:Value)(hne:tx≠271)(hn:n≤140737488355328)(a:Act)(hA:Ag a 59 [(0,.pointer (some ⟨q,0,none⟩)),(1,.pointer (some ⟨p,0,none⟩)),(2,.iface tx vx)])(hS:Sat W w (aS r (.cells #[.slice A n c,.int .i64 at_,.bool live,.int .i64 err] 269)::aS q (.cells #[.pointer (some ⟨r,0,none⟩)] 196)::aS p (.cells #[.int .i64 e0] 27)::L)):(oM Tryz.f148.body).wp Tryz.prog (bodyPost Tryz.prog Tryz.f148 fun e w'=>e=.returned (.tuple #[])∧Sat W w' (aS r (.cells #[.slice none 0 0,.int .i64 at_,.bool false,.int .i64 err] 269)::aS q (.cells #[.pointer (some ⟨r,0,none⟩)] 196)::aS p (.cells #[.int .i64 (if err≠0 then err else 8)] 27)::L)) a w:=by
 refine rC 1 hA ?_;clear hA a;intro a hA;refine cZ (fun w'=>Sat _ w' _) (by kernel_rfl) (by kernel_rfl) hS.drew ?_;refine Q1 0 hA (fun w hS=>(av (hA.ev rfl) cw (by exact (hS.p 1).cell rfl))) ?_;clear hA a;refine bC 0 (fun w hS=>(aI rfl)) ?_;refine bC 0 (fun w hS=>(aa rfl fC)) ?_;refine bC 0 (fun w hS=>(ld rfl bq)) ?_;refine bC 0 (fun w hS=>(ld rfl cw)) ?_;refine bC 0 (fun w hS=>(aI rfl)) ?_;refine bC 0 (fun w hS=>(aa rfl eH)) ?_;refine bC 0 (fun w hS=>(ld rfl ed)) ?_;refine bC 0 (fun w hS=>(au rfl cR)) ?_;intro a hA;refine K.sq hA rfl rfl rfl (fun w hS=>(aA (hA.ev rfl) (hA.ev rfl))) ?_ ?_
 ·clear hA a;intro h16;refine uQ 1 ?_;intro a hA;refine wpQuiet_nil ?_;clear hS;intro w hS;refine rE 3 hA ?_;clear hA a;refine u1 0 (ld rfl cw) ?_;refine u1 0 (ld rfl cw) ?_;refine u1 0 (aI rfl) ?_;refine u1 0 (aa rfl j4) ?_;intro a hA;refine jQ hA rfl rfl zR Co rfl hS rfl ?_;clear hS;intro w hS;refine o1 0 hA (aI (hA.ev rfl)) ?_;clear hA a;refine u1 0 (aa rfl eH) ?_;intro a hA;refine jQ hA rfl rfl ed gl rfl hS rfl ?_;clear hS;intro w hS;refine rO 6 hA ?_;clear hA a;refine u1 1 (vr rfl hne qG (nB l6)) ?_;refine u1 0 (ak rfl rfl) ?_;refine u1 0 (ak rfl rfl) ?_;refine uN l6 hS ?_;clear hS;intro b4 w hS;refine uW (vs:=[_]) (cs':=[_]) rfl rfl so hS ?_;clear hS;intro w hS;refine uO 21 ?_;intro a hA;replace hA:=hA.kp [0,1,2,3,4,41] rfl;refine rC 6 hA ?_;clear hA a
  refine u1 0 (ld rfl cw) ?_;refine u1 0 (aI rfl) ?_;refine u1 0 (aa rfl dX) ?_;refine u1 0 (ld rfl fZ) ?_;refine ba 0 0 (aD rfl rfl) ?_ ?_
  ·intro h49;refine uO 5 ?_;refine u1 0 (ld rfl cw) ?_;refine u1 0 (aI rfl) ?_;refine u1 0 (aa rfl dX) ?_;refine u1 0 (ld rfl fZ) ?_;intro a hA;refine jQ hA rfl rfl fZ oN rfl (hS.p 3) rfl ?_;clear hS;intro w hS;refine rO 2 hA ?_;clear hA a;intro a hA;refine dP (e:=.ret) ?_;refine fW hA rfl  ?_
   first
    | (rw[if_pos h49];exact⟨rfl,(((hS.p 3).p 3).p 3).drop⟩)
    | (rw[if_neg h49,if_pos h16];exact⟨rfl,(((hS.p 3).p 3).p 3).drop⟩)
    | (rw[if_neg h49,if_neg h16];exact⟨rfl,hS.drop⟩)
    | (rw[if_neg h49];exact⟨rfl,(((hS.p 3).p 3).p 3).drop⟩)
  ·intro h49;refine uO 7 ?_;refine u1 5 (ti rfl rfl (show isIface Tryz.prog 20=true by kernel_rfl)) ?_;intro a hA;refine jQ hA rfl rfl fZ oN rfl (hS.p 3) rfl ?_;clear hS;intro w hS;refine rO 2 hA ?_;clear hA a;intro a hA;refine dP (e:=.ret) ?_;refine fW hA rfl  ?_
   first
    | (rw[if_pos h49];exact⟨rfl,(((hS.p 3).p 3).p 3).drop⟩)
    | (rw[if_neg h49,if_pos h16];exact⟨rfl,(((hS.p 3).p 3).p 3).drop⟩)
    | (rw[if_neg h49,if_neg h16];exact⟨rfl,hS.drop⟩)
    | (rw[if_neg h49];exact⟨rfl,(((hS.p 3).p 3).p 3).drop⟩)
 ·clear hA a;intro h16;refine uQ 1 ?_;intro a hA;refine wpQuiet_nil ?_;clear hS;intro w hS;refine rE 3 hA ?_;clear hA a;refine u1 0 (ld rfl cw) ?_;refine u1 0 (ld rfl cw) ?_;refine u1 0 (aI rfl) ?_;refine u1 0 (aa rfl j4) ?_;intro a hA;refine jQ hA rfl rfl zR Co rfl hS rfl ?_;clear hS;intro w hS;refine o1 0 hA (aI (hA.ev rfl)) ?_;clear hA a;refine u1 0 (aa rfl eH) ?_;intro a hA;refine jQ hA rfl rfl ed gl rfl hS rfl ?_;clear hS;intro w hS;refine rO 6 hA ?_;clear hA a;refine u1 1 (vr rfl hne qG (nB l6)) ?_;refine u1 0 (ak rfl rfl) ?_;refine u1 0 (ak rfl rfl) ?_;refine uN l6 hS ?_;clear hS;intro b4 w hS;refine uW (vs:=[_]) (cs':=[_]) rfl rfl so hS ?_;clear hS;intro w hS;refine uO 21 ?_;intro a hA;replace hA:=hA.kp [0,1,2,3,4,41] rfl;refine rC 6 hA ?_;clear hA a
  refine u1 0 (ld rfl cw) ?_;refine u1 0 (aI rfl) ?_;refine u1 0 (aa rfl dX) ?_;refine u1 0 (ld rfl fZ) ?_;refine ba 0 0 (aD rfl rfl) ?_ ?_
  ·intro h49;refine uO 5 ?_;refine u1 0 (ld rfl cw) ?_;refine u1 0 (aI rfl) ?_;refine u1 0 (aa rfl dX) ?_;refine u1 0 (ld rfl fZ) ?_;intro a hA;refine jQ hA rfl rfl fZ oN rfl (hS.p 3) rfl ?_;clear hS;intro w hS;refine rO 2 hA ?_;clear hA a;intro a hA;refine dP (e:=.ret) ?_;refine fW hA rfl  ?_
   first
    | (rw[if_pos h49];exact⟨rfl,(((hS.p 3).p 3).p 3).drop⟩)
    | (rw[if_neg h49,if_pos h16];exact⟨rfl,(((hS.p 3).p 3).p 3).drop⟩)
    | (rw[if_neg h49,if_neg h16];exact⟨rfl,hS.drop⟩)
    | (rw[if_neg h49];exact⟨rfl,(((hS.p 3).p 3).p 3).drop⟩)
  ·intro h49;refine uO 7 ?_;refine u1 5 (ti rfl rfl (show isIface Tryz.prog 20=true by kernel_rfl)) ?_;intro a hA;refine jQ hA rfl rfl fZ oN rfl (hS.p 3) rfl ?_;clear hS;intro w hS;refine rO 2 hA ?_;clear hA a;intro a hA;refine dP (e:=.ret) ?_;refine fW hA rfl  ?_
   first
    | (rw[if_pos h49];exact⟨rfl,(((hS.p 3).p 3).p 3).drop⟩)
    | (rw[if_neg h49,if_pos h16];exact⟨rfl,(((hS.p 3).p 3).p 3).drop⟩)
    | (rw[if_neg h49,if_neg h16];exact⟨rfl,hS.drop⟩)
    | (rw[if_neg h49];exact⟨rfl,(((hS.p 3).p 3).p 3).drop⟩)
end Go.Proofs.YtkjabaihpkbfhaaGreat.Wk
namespace Go.Proofs.YtkjabaihpkbfhaaGreat.Wk
open Go Go.RowKit Go.Proofs.YtkjabaihpkbfhaaGreat Go.Proofs.YtkjabaihpkbfhaaGreat.K
section
variable {P:Program} {Q:Exit→Act→List Frame→World→Prop} {a:Act} {cs cs':List Frame} {w w':World} {ops:Array Oper} {i:Nat} {rest:List Nat} {o:Oper} {v:Value}
theorem yv (ho:ops[i]?=some o)(hg:o.guard=none)(hr:(execOp a.eval o).run P w=.ok .recover w')(hc:recoverD cs=some (v,cs'))(k:wpOpsS P ops Q rest (a.put o.dst v) cs' w'):wpOpsS P ops Q (i::rest) a cs w:=by
 rw[wpOpsS];simp only[ho,Region.wanted,hg,if_true,hr,hc];exact k
theorem x9 (ho:ops[i]?=some o)(hg:o.guard=none)(hr:(execOp a.eval o).run P w=.ok .recover w')(hc:recoverD cs=none)(k:wpOpsS P ops Q rest (a.put o.dst .nilIface) cs w'):wpOpsS P ops Q (i::rest) a cs w:=by
 rw[wpOpsS];simp only[ho,Region.wanted,hg,if_true,hr,hc];exact k
theorem FQ (ho:ops[i]?=some o)(hg:o.guard=none)(hr:(execOp a.eval o).run P w=.ok (.value v) w')(k:wpOpsS P ops Q rest (a.put o.dst v) cs w'):wpOpsS P ops Q (i::rest) a cs w:=by
 rw[wpOpsS];simp only[ho,Region.wanted,hg,if_true,hr,Oper.upon];exact k
end
theorem tZ {R:Ending→World→Prop}(x:Value)(u u':FrameMode)(w:World)(q p:Nat)
 (hx:∀(c₀:Frame) (cs:List Frame),c₀.mode=u→recoverD (c₀::cs)=some (x,{ c₀ with mode:=u' }::cs)∨(recoverD (c₀::cs)=none∧x=.nilIface∧u'=u))
 (h:∀a,Ag a 59 [(0,.pointer (some ⟨q,0,none⟩)),(1,.pointer (some ⟨p,0,none⟩)),(2,x)]→(oM Tryz.f148.body).wp Tryz.prog (bodyPost Tryz.prog Tryz.f148 R) a w) :
 CallsD Tryz.prog 148 #[.pointer (some ⟨q,0,none⟩),.pointer (some ⟨p,0,none⟩)] u w fun e v w'=>v=u'∧R e w':=by
 refine callsD_of_wpS Tryz.func148 rfl fun c₀ cs hc=>wpS_seq (wpS_region ?_)
 have hA0:Ag { tmps:=#[.pointer (some ⟨q,0,none⟩),.pointer (some ⟨p,0,none⟩)]++Array.replicate (Tryz.f148.ntmps-2) undef,defers:=[] } 59 [(0,.pointer (some ⟨q,0,none⟩)),(1,.pointer (some ⟨p,0,none⟩))]:=
  Ag.enter _ 59 (by simp) (by intro z hz;simp at hz;rcases hz with rfl | rfl<;>rfl)
 show wpOpsS Tryz.prog _ _ [0,1] _ _ _
 have key:∀a' cs',Ag a' 59 [(0,.pointer (some ⟨q,0,none⟩)),(1,.pointer (some ⟨p,0,none⟩)),(2,x)]→cs'={ c₀ with mode:=u' }::cs→
  (oM Tryz.f148.body).wpS Tryz.prog (bodyPostS Tryz.prog Tryz.f148 c₀ cs (fun e v w'=>v=u'∧R e w')) a' cs' w:=fun a' cs' hA hcs=>
  wpS_of_wp (wp_mono (h a' hA) fun e a2 w2 hq=>by
   cases e with
   | normal=>obtain⟨h1,v,h2,h3⟩:=hq;exact⟨h1,u',hcs,v,h2,rfl,h3⟩
   | ret=>obtain⟨h1,v,h2,h3⟩:=hq;exact⟨h1,u',hcs,v,h2,rfl,h3⟩
   | panic ch=>exact⟨hq.1,u',hcs,rfl,hq.2⟩
   | outgrown=>exact⟨u',rfl,hq⟩
   | exit i=>exact hq
   | goto l=>exact hq)
 rcases hx c₀ cs hc with h1 | ⟨h1,rfl,rfl⟩
 ·
  refine yv rfl rfl rfl h1 ?_;have hA1:=hA0.put (d:=6) (by rfl) x;refine FQ rfl rfl (nt (hA1.ev rfl)) ?_;have hA2:=hA1.put (d:=2) (by rfl) x;exact key _ _ (hA2.tp (.cons (i:=0) rfl (.cons (i:=1) rfl (.cons (i:=2) rfl .nil)))) rfl
 ·
  refine x9 rfl rfl rfl h1 ?_;have hA1:=hA0.put (d:=6) (by rfl) .nilIface;refine FQ rfl rfl (nt (hA1.ev rfl)) ?_;have hA2:=hA1.put (d:=2) (by rfl) .nilIface;exact key _ _ (hA2.tp (.cons (i:=0) rfl (.cons (i:=1) rfl (.cons (i:=2) rfl .nil)))) (by subst hc;rfl)
end Go.Proofs.YtkjabaihpkbfhaaGreat.Wk
namespace Go.Proofs.YtkjabaihpkbfhaaGreat.Wk
open Go Go.RowKit Go.Proofs.YtkjabaihpkbfhaaGreat Go.Proofs.YtkjabaihpkbfhaaGreat.K Go.Proofs.YtkjabaihpkbfhaaGreat.T
def dead (r:Nat)(at_ err:Int):As:=aS r (.cells #[.slice none 0 0,.int .i64 at_,.bool false,.int .i64 err] 269)
def fz (q r:Nat):As:=aS q (.cells #[.pointer (some ⟨r,0,none⟩)] 196)
def fe (p:Nat)(x:Int):As:=aS p (.cells #[.int .i64 x] 27)
theorem kX {R:Ending→World→Prop}{a:Act}{E:Env}(W w:World)(L:List As)(r q p:Nat)(at_ err:Int)(x:Value)(u u':FrameMode)(hu:u≠.run)
 (hx:∀(c₀:Frame) (cs:List Frame),c₀.mode=u→recoverD (c₀::cs)=some (x,{ c₀ with mode:=u' }::cs)∨(recoverD (c₀::cs)=none∧x=.nilIface∧u'=u)) (hset:settle u'=.returning) (fin:Int)
 (htail:∀a,Ag a 59 [(0,.pointer (some ⟨q,0,none⟩)),(1,.pointer (some ⟨p,0,none⟩)),(2,x)]→(oM Tryz.f148.body).wp Tryz.prog (bodyPost Tryz.prog Tryz.f148 fun e w'=>e=.returned (.tuple #[])∧Sat W w' (dead r at_ err::fz q r::fe p fin::L)) a w)
 (hA:vL [{ target:=.fn (.func 148) #[.pointer (some ⟨q,0,none⟩),.pointer (some ⟨p,0,none⟩)],args:=#[] }] a 15 E) (h4:find 4 E=some (.pointer (some ⟨p,0,none⟩)))
 (hR:∀w',Sat W w' (dead r at_ err::fz q r::fe p fin::L)→R (.returned (.int .i64 fin)) w'):Leaves Tryz.prog Tryz.f98 a.tmps R a.defers u w:=by
 rw[hA.defers]
 have hinv:(invoke (.fn (.func 148) #[.pointer (some ⟨q,0,none⟩),.pointer (some ⟨p,0,none⟩)]) #[]).run Tryz.prog w=.ok (.enter 148 #[.pointer (some ⟨q,0,none⟩),.pointer (some ⟨p,0,none⟩)]) w:=by
  have h:=gW (w:=w) (args:=#[.pointer (some ⟨q,0,none⟩),.pointer (some ⟨p,0,none⟩)]) DV;have e:(#[]:Array Value)++#[.pointer (some ⟨q,0,none⟩),.pointer (some ⟨p,0,none⟩)]=#[.pointer (some ⟨q,0,none⟩),.pointer (some ⟨p,0,none⟩)]:=by simp
  show (callFunc 148 ((#[]:Array Value)++#[.pointer (some ⟨q,0,none⟩),.pointer (some ⟨p,0,none⟩)])).run Tryz.prog w=_;rw[e,h]
 refine leaves_cons hu hinv (CallsD.mono (tZ x u u' w q p hx htail) fun e v w' hh=>?_);obtain⟨rfl,rfl,hS⟩:=hh;show Leaves Tryz.prog Tryz.f98 a.tmps R [] (settle v) w';rw[hset]
 have hc:w'.cell? ⟨p,0,none⟩=some (.int .i64 fin):=by
  have h2:=hS.p 2;unfold fe at h2;exact h2.cell rfl
 have hres:=F5 (P:=Tryz.prog) (w:=w') (s:=4) (t:=27) hA.base h4 fZ hc;refine⟨.int .i64 fin,?_,hR w' hS⟩;rw[jV];show (((#[ResultVar.cell 4 27]:Array ResultVar).mapM (o4 a.tmps)).bind _).run Tryz.prog w'=_;rw[Sem.run_bind',Cj hres]
 rfl
end Go.Proofs.YtkjabaihpkbfhaaGreat.Wk
namespace Go.Proofs.YtkjabaihpkbfhaaGreat.Wk
open Go Go.RowKit Go.Proofs.YtkjabaihpkbfhaaGreat Go.Proofs.YtkjabaihpkbfhaaGreat.K Go.Proofs.YtkjabaihpkbfhaaGreat.T
open K.D Go.Proofs.YtkjabaihpkbfhaaGreat.T
def mF (ok:Bool)(err at_:Int)(n:Nat):Int:=if err≠0 then err else if ok=false then 8 else if at_<n then 52 else 0
theorem jg {ok:Bool}{err at_:Int}{n:Nat}(h:ok=true):mF ok err at_ n=if err≠0 then err else if at_<n then 52 else 0:=by subst h;simp[mF]
theorem ig {ok:Bool}{err at_:Int}{n:Nat}(h:ok=false):mF ok err at_ n=if err≠0 then err else 8:=by subst h;simp[mF]
def wm (r:Nat)(ok:Bool)(e:Ending):Prop:=(ok=true∧e=.returned (.tuple #[]))∨(ok=false∧(te (.iface 271 (.agg #[.pointer (some ⟨r,0,none⟩)])) e∨∃(tx:TypeId) (vx:Value),tx≠271∧te (.iface tx vx) e))
theorem Cu:∀(l:List PanicEntry),l.all (fun x=>!x.goexit)=true→l.dropWhile (fun x=>!x.goexit)=[]
 | [],_=>rfl
 | x :: l, h => by
   simp only[List.all_cons,Bool.and_eq_true]at h;rw[List.dropWhile_cons,if_pos h.1,Cu l h.2]
theorem xw {v:Value}{older:List PanicEntry}(ho:older.all (fun x=>!x.goexit)=true):settle (.panicking ({ v:=v,recovered:=true }::older))=.returning:=by
 simp only[settle];rw[Cu older ho]
theorem En {v:Value}{older:List PanicEntry}(c₀:Frame)(cs:List Frame)(hc:c₀.mode=.panicking ({ v:=v,recovered:=false }::older)):recoverD (c₀::cs)=some (v,{ c₀ with mode:=.panicking ({ v:=v,recovered:=true }::older) }::cs):=by
 simp only[recoverD,hc]
theorem Gu (c₀:Frame)(cs:List Frame)(hc:c₀.mode=.returning):recoverD (c₀::cs)=none:=by
 simp only[recoverD,hc]
theorem fT (W w:World)(L:List As)(A:Option Addr)(c:Nat)(bs:List UInt8)(Φ:Nat→Int→Int→Bool→List As→Prop)(fid:Nat)(caps:List Value)(hS:Sat W w (L))(hb:bs.length≤140737488355328)(hen:enters Tryz.prog fid=true)(hcl:∀(w:World) (r q p:Nat),Sat W w (eR r A c bs 0 true 0::fz q r::fe p 0::L)→Calls Tryz.prog fid ([Value.pointer (some ⟨r,0,none⟩)]++caps).toArray w fun e w'=>∃(at' err:Int) (ok:Bool) (M:List As),wm r ok e∧Sat W w' (eR r A c bs at' true err::fz q r::fe p 0::M)∧Φ r at' err ok M):Calls Tryz.prog 98 #[.slice A bs.length c,.func (.func fid) #[] caps.toArray] w fun e w'=>∃(r q p:Nat) (at' err:Int) (ok:Bool) (M:List As),e=.returned (.int .i64 (mF ok err at' bs.length))∧Sat W w' (dead r at' err::fz q r::fe p (mF ok err at' bs.length)::M)∧Φ r at' err ok M:=by
 refine Bs Tryz.func98 rfl rfl rfl (.cons (i:=0) rfl (.cons (i:=1) rfl .nil)) ?_;intro a hA;refine wp_seq_k fun k1 hk1=>?_;refine wp_region_lit ?_;refine goN hA rfl Gd hS ?_;clear hA a hS;intro b4 w hS a hA;refine wpList_nil ?_;refine hk1 _ _ ?_;clear hk1 k1;refine wp_seq_k fun k2 hk2=>?_;refine wp_region_lit ?_;refine uo hA rfl rfl rfl (sY (hA.ev rfl)) ?_;clear hA a;intro a hA;refine uo hA rfl rfl rfl (ax hA rfl yN) ?_;clear hA a;intro a hA;refine GF hA rfl rfl hS ?_;clear hA a hS;intro b8 w hS a hA;refine goN hA rfl DO hS ?_;clear hA a hS;intro b5 w hS a hA;refine jQ hA rfl rfl cw DY rfl hS rfl ?_;clear hS;intro w hS;refine wpList_nil ?_;refine hk2 _ _ ?_;clear hk2 k2;replace hA:=hA.tp (.cons (i:=1) rfl (.cons (i:=4) rfl (.cons (i:=5) rfl .nil)));refine wp_seq_k fun k3 hk3=>?_;refine wp_region_lit ?_
 refine uo hA rfl rfl rfl (nV (hA.jN rfl)) ?_;clear hA a;intro a hA;refine Bp hA rfl ?_;clear hA a;intro a hA;refine wpList_nil ?_;refine hk3 _ _ ?_;clear hk3 k3;replace hA:=hA.tp (.cons (i:=1) rfl (.cons (i:=4) rfl (.cons (i:=5) rfl .nil)));refine wp_seq_k fun k4 hk4=>?_;refine wp_seq_k fun k5 hk5=>?_;refine wp_region_lit ?_;refine uo hA rfl rfl rfl (sY (hA.ev rfl)) ?_;clear hA a;intro a hA;refine uo hA rfl rfl rfl (Dv (hA.ev rfl) (hA.ev rfl) (wo FG).choose_spec.choose_spec.choose_spec) ?_;clear hA a;intro a hA;refine wpList_nil ?_;refine hk5 _ _ ?_;clear hk5 k5;replace hA:=hA.tp (.cons (i:=1) rfl (.cons (i:=4) rfl (.cons (i:=5) rfl (.cons (i:=11) rfl .nil))));refine wp_cond_true (hA.ev rfl) ?_;refine wp_region_lit ?_;refine uo hA rfl rfl rfl (sY (hA.ev rfl)) ?_;clear hA a;intro a hA
 refine uo hA rfl rfl rfl (av (hA.ev rfl) cw (by exact hS.cell rfl)) ?_;clear hA a;intro a hA;refine vZ hA rfl hen rfl rfl (hcl _ b8 b5 b4 hS.u6) ?_;obtain⟨r,hr⟩:∃r,r=b8:=⟨_,rfl⟩;obtain⟨q,hq⟩:∃q,q=b5:=⟨_,rfl⟩;obtain⟨p,hp⟩:∃p,p=b4:=⟨_,rfl⟩;subst hr hq hp;clear hS;rintro e w ⟨at',err,ok,M,(⟨hok,rfl⟩ | ⟨hok,(⟨older,rfl,ho⟩ | ⟨tx,vx,htx,older,rfl,ho⟩)⟩),hS,hΦ⟩
 ·
  skip
  change Sat W w (aS r (.cells #[.slice A bs.length c,.int .i64 at',.bool true,.int .i64 err] 269)::aS q (.cells #[.pointer (some ⟨r,0,none⟩)] 196)::aS p (.cells #[.int .i64 0] 27)::M) at hS;refine .inl ⟨_,rfl,?_⟩;clear hA a;intro a hA;refine wpList_nil ?_;refine hk4 _ _ ?_;clear hk4 k4;replace hA:=hA.tp (.cons (i:=4) rfl .nil);refine wp_seq_k fun k6 hk6=>?_;refine wp_region_lit ?_;refine jQ hA rfl rfl fZ oN rfl (hS.p 2) rfl ?_;clear hS;intro w hS;refine wpList_nil ?_;refine hk6 _ _ ?_;clear hk6 k6;refine wp_ret ?_;replace hS:=((hS.p 2).p 2);exact kX W w M r q p at' err .nilIface .returning .returning (by simp) (fun c₀ cs hc=>.inr ⟨Gu c₀ cs hc,rfl,rfl⟩) rfl (mF ok err at' bs.length) (fun a hA=>by have hh:=x6 W w M r q p A bs.length c at' err 0 true hb a hA hS;rw[jg hok];exact hh) hA rfl (fun w' hS=>⟨r,q,p,at',err,ok,M,by rfl,hS,hΦ⟩)
 ·
  skip
  refine .inr ⟨_,rfl,?_⟩;refine pU ?_;clear hk4 k4;change Sat W w (aS r (.cells #[.slice A bs.length c,.int .i64 at',.bool true,.int .i64 err] 269)::aS q (.cells #[.pointer (some ⟨r,0,none⟩)] 196)::aS p (.cells #[.int .i64 0] 27)::M) at hS;exact kX W w M r q p at' err (.iface 271 (.agg #[.pointer (some ⟨r,0,none⟩)])) (.panicking ({ v:=(.iface 271 (.agg #[.pointer (some ⟨r,0,none⟩)])),recovered:=false }::older)) (.panicking ({ v:=(.iface 271 (.agg #[.pointer (some ⟨r,0,none⟩)])),recovered:=true }::older)) (by simp) (fun c₀ cs hc=>.inl (En c₀ cs hc)) (xw ho) (mF ok err at' bs.length) (fun a hA=>by have hh:=yb W w M r q p A bs.length c at' err 0 true hb a hA hS;rw[ig hok];exact hh) hA rfl (fun w' hS=>⟨r,q,p,at',err,ok,M,by rfl,hS,hΦ⟩)
 ·
  skip
  refine .inr ⟨_,rfl,?_⟩;refine pU ?_;clear hk4 k4;change Sat W w (aS r (.cells #[.slice A bs.length c,.int .i64 at',.bool true,.int .i64 err] 269)::aS q (.cells #[.pointer (some ⟨r,0,none⟩)] 196)::aS p (.cells #[.int .i64 0] 27)::M) at hS;exact kX W w M r q p at' err (.iface tx vx) (.panicking ({ v:=(.iface tx vx),recovered:=false }::older)) (.panicking ({ v:=(.iface tx vx),recovered:=true }::older)) (by simp) (fun c₀ cs hc=>.inl (En c₀ cs hc)) (xw ho) (mF ok err at' bs.length) (fun a hA=>by have hh:=uD W w M r q p A bs.length c at' err 0 true tx vx htx hb a hA hS;rw[ig hok];exact hh) hA rfl (fun w' hS=>⟨r,q,p,at',err,ok,M,by rfl,hS,hΦ⟩)
end Go.Proofs.YtkjabaihpkbfhaaGreat.Wk
namespace Go.Proofs.YtkjabaihpkbfhaaGreat.Wk
open Go Go.RowKit Go.Proofs.YtkjabaihpkbfhaaGreat Go.Proofs.YtkjabaihpkbfhaaGreat.K
def seqB {α:Type}(g:Option α→α→List UInt8):Option α→List α→List UInt8
 | _,[]=>[]
 | p,x::l=>g p x++seqB g (some x) l
def gv {α:Type}(F:Option α→α→Prop):Option α→List α→Prop
 | _,[]=>True
 | p,x::l=>F p x∧gv F (some x) l
theorem np {α:Type}{f:Option α→α→Bool}:∀ {l:List α} {p:Option α},iC f p l=true↔gv (fun p x=>f p x=true) p l
 | [],_=>by simp[iC,gv]
 | x::l,p=>by rw[iC,gv,Bool.and_eq_true,np]
theorem r8 {α:Type}{F G:Option α→α→Prop}(h:∀p x,F p x→G p x):∀ {l:List α} {p:Option α},gv F p l→gv G p l
 | [],_,_=>trivial
 | _::_,_,hc=>⟨h _ _ hc.1,r8 h hc.2⟩
def dG {α:Type}(f:Option α→List UInt8→Option (α×List UInt8)):Nat→Option α→List UInt8→Option (List α×List UInt8)
 | 0,_,l=>some ([],l)
 | n + 1, p, l => match f p l with
   | none=>none
   | some (x, r) => match dG f n (some x) r with
     | none=>none
     | some (xs,r')=>some (x::xs,r')
theorem ss {α:Type}{f:Option α→List UInt8→Option (α×List UInt8)}{n:Nat}{p:Option α}{l:List UInt8}(h:f p l=none):dG f (n+1) p l=none:=by rw[dG,h]
theorem oT {α:Type}{f:Option α→List UInt8→Option (α×List UInt8)}{n:Nat}{p:Option α}{l r:List UInt8}{x:α}(h:f p l=some (x,r)):dG f (n+1) p l=(dG f n (some x) r).map fun q=>(x::q.1,q.2):=by
 rw[dG,h];simp only;cases dG f n (some x) r with
 | none=>rfl
 | some q=>rfl
structure Dh (α:Type) where
 g:Option α→α→List UInt8
 F:Option α→α→Prop
 f:Option α→List UInt8→Option (α×List UInt8)
 P:Option α→Prop
 law:∀p,P p→∀l x r,f p l=some (x,r)↔l=g p x++r∧F p x
 step:∀p x,P p→F p x→P (some x)
theorem Dh.seq {α:Type}(M:Dh α):∀(n:Nat) (p:Option α),M.P p→∀l xs r,dG M.f n p l=some (xs,r)↔l=seqB M.g p xs++r∧gv M.F p xs∧xs.length=n
 | 0, p, hp, l, xs, r => by
   rw[dG];constructor
   ·
    intro h;cases h;exact⟨rfl,trivial,rfl⟩
   ·
    rintro ⟨rfl,_,h⟩;obtain rfl:=List.eq_nil_of_length_eq_zero h
    rfl
 | n + 1, p, hp, l, xs, r => by
   constructor
   ·
    intro h;cases e:M.f p l with
    | none=>rw[ss e]at h;cases h
    | some q =>
      obtain⟨x,l'⟩:=q;rw[oT e]at h;obtain⟨⟨ys,r'⟩,hq,h2⟩:=Option.map_eq_some_iff.1 h;cases h2;obtain⟨rfl,hF⟩:=(M.law p hp l x l').1 e;obtain⟨rfl,hc,hl⟩:=(M.seq n (some x) (M.step p x hp hF) l' ys r').1 hq;exact⟨by rw[seqB,List.append_assoc],⟨hF,hc⟩,by simp[hl]⟩
   ·
    rintro ⟨rfl,hc,hl⟩;cases xs with
    | nil=>cases hl
    | cons x xs =>
      have e:=(M.law p hp (seqB M.g p (x::xs)++r) x (seqB M.g (some x) xs++r)).2 ⟨by rw[seqB,List.append_assoc],hc.1⟩;rw[oT e,(M.seq n (some x) (M.step p x hp hc.1) _ xs r).2 ⟨rfl,hc.2,by simpa using hl⟩]
      rfl
theorem gC {α:Type}{g:Option α→α→List UInt8}{k:Nat}(h:∀p x,k≤(g p x).length):∀(l:List α) (p:Option α),l.length * k≤(seqB g p l).length
 | [],_=>by simp
 | x :: l, p => by
   have:=h p x;have:=gC h l (some x);rw[seqB,List.length_append,List.length_cons,Nat.add_mul];omega
theorem o6 {α:Type}{g:Option α→α→List UInt8}:∀(l:List α) (p:Option α) (x:α),seqB g p (l++[x])=seqB g p l++g (match l.getLast? with | some y=>some y | none=>p) x
 | [],p,x=>by simp[seqB]
 | y :: l, p, x => by
   rw[List.cons_append,seqB,seqB,o6 l (some y) x,List.append_assoc]
   congr 3
   cases l with
   | nil=>rfl
   | cons z l =>
     rw[List.getLast?_cons_cons];cases e:(z::l).getLast? with
     | none=>simp at e
     | some y=>rfl
def a6 (most:Int)(l:List UInt8):Option (Nat×List UInt8):=if (fJ 9 0 l).1=0∧((fJ 9 0 l).2.1:Int)≤most then some ((fJ 9 0 l).2.1,l.drop (fJ 9 0 l).2.2) else none
theorem aU {most:Int}{l r:List UInt8}{v:Nat}:a6 most l=some (v,r)↔l=aY v++r∧(v:Int)≤most∧v≤9223372036854775807:=by
 unfold a6;constructor
 ·
  intro h
  split at h
  ·
   rename_i hc;obtain⟨rfl,rfl⟩:(fJ 9 0 l).2.1=v∧l.drop (fJ 9 0 l).2.2=r:=by simpa using h
   have e:fJ 9 0 l=(0,(fJ 9 0 l).2.1,(fJ 9 0 l).2.2):=Prod.ext hc.1 rfl;obtain⟨_,_,h3,_,h5⟩:=tC 9 0 l _ _ e;refine⟨?_,hc.2,by have:(128:Nat) ^ 9=9223372036854775808:=(by decide);omega⟩;rw[←h5,List.take_append_drop]
  ·
   cases h
 ·
  rintro ⟨rfl,h1,h2⟩;have e:=zF 9 0 v r (by have:(128:Nat) ^ 9=9223372036854775808:=(by decide);omega) (fun h=>absurd h (by omega)) (by omega);rw[e];simp[h1]
def bX (most:Int)(l:List UInt8):Option (List UInt8×List UInt8):=match a6 most l with
 | none=>none
 | some (n,r)=>if n≤r.length then some (r.take n,r.drop n) else none
theorem dh {most:Int}{l r s:List UInt8}:bX most l=some (s,r)↔l=aY s.length++s++r∧(s.length:Int)≤most∧s.length≤9223372036854775807:=by
 unfold bX;constructor
 ·
  intro h
  split at h
  ·
   cases h
  ·
   rename_i n r' e;obtain⟨rfl,h1,h2⟩:=aU.1 e
   split at h
   ·
    rename_i hn;obtain⟨rfl,rfl⟩:r'.take n=s∧r'.drop n=r:=by simpa using h
    have hl:(r'.take n).length=n:=by simp;omega
    rw[hl,List.append_assoc,List.take_append_drop];exact⟨rfl,h1,h2⟩
   ·
    cases h
 ·
  rintro ⟨rfl,h1,h2⟩;rw[List.append_assoc,aU.2 ⟨rfl,h1,h2⟩];simp
theorem tI {bs:List UInt8}{i:Nat}{mo:Int}(h:(eQ bs i mo).2.2=0):a6 mo (bs.drop i)=some ((eQ bs i mo).1,bs.drop (eQ bs i mo).2.1):=by
 by_cases h1:(dI bs i).2.2=0
 ·
  by_cases h2:((dI bs i).1:Int)≤mo
  ·
   rw[rF h1 h2]
   by_cases h3:(fJ 9 0 (bs.drop i)).1=0
   ·
    unfold dI at h2 ⊢;rw[if_pos h3]at h2 ⊢;simp only at h2 ⊢;unfold a6;rw[if_pos ⟨h3,h2⟩,List.drop_drop]
   ·
    unfold dI at h1;rw[if_neg h3]at h1;exact absurd h1 h3
  ·
   rw[ru h1 (by omega)]at h;cases h
 ·
  rw[pA h1]at h;exact absurd h h1
theorem rq {bs:List UInt8}{i:Nat}{mo:Int}(h:(eQ bs i mo).2.2≠0):a6 mo (bs.drop i)=none:=by
 unfold a6;rw[if_neg];rintro ⟨h1,h2⟩;apply h;have h3:dI bs i=((fJ 9 0 (bs.drop i)).2.1,i+(fJ 9 0 (bs.drop i)).2.2,0):=by unfold dI;rw[if_pos h1]
 rw[rF (by rw[h3]) (by rw[h3];exact h2)]
theorem zM {bs:List UInt8}{i:Nat}{mo:Int}(h:(ku bs i mo).2.2=0):bX mo (bs.drop i)=some ((ku bs i mo).1,bs.drop (ku bs i mo).2.1):=by
 by_cases h1:(eQ bs i mo).2.2=0
 ·
  by_cases h2:(eQ bs i mo).1≤bs.length-(eQ bs i mo).2.1
  ·
   rw[pT h1 h2];unfold bX;rw[tI h1];simp only;rw[if_pos (by rw[List.length_drop];exact h2),List.drop_drop]
  ·
   rw[lz h1 (by omega)]at h;cases h
 ·
  rw[pH h1]at h;exact absurd h h1
theorem sB {bs:List UInt8}{i:Nat}{mo:Int}(h:(ku bs i mo).2.2≠0):bX mo (bs.drop i)=none:=by
 unfold bX
 by_cases h1:(eQ bs i mo).2.2=0
 ·
  rw[tI h1];simp only;rw[if_neg];intro h2;rw[List.length_drop]at h2;rw[pT h1 h2]at h;exact h rfl
 ·
  rw[rq h1]
def jy (most:Int):Dh Int where
 g _ x:=aY x.toNat
 F _ x:=0≤x∧x≤most∧x≤9223372036854775807
 f _ l := match a6 most l with
   | none=>none
   | some (v,r)=>some ((v:Int),r)
 P _:=True
 step _ _ _ _:=trivial
 law p _ l x r:=by
  constructor
  ·
   intro h
   split at h
   ·
    cases h
   ·
    rename_i v r' e;cases h;obtain⟨rfl,h1,h2⟩:=aU.1 e;exact⟨by simp,by omega,h1,by omega⟩
  ·
   rintro ⟨rfl,h1,h2,h3⟩;rw[aU.2 ⟨rfl,by omega,by omega⟩];simp[Int.toNat_of_nonneg h1]
def cj (p:Option aF):Int:=match p with | some q=>q.rep | none=>0
def a7 (vec:List Int)(p:Option aF)(rep:Int):Int:=match p with
 | some q=>if q.rep=rep then q.hi+2 else aL vec rep.toNat+2
 | none=>aL vec rep.toNat+2
def jL (vec:List Int)(p:Option aF)(s:aF):List UInt8:=aY (s.rep-cj p).toNat++(aY (s.lo-a7 vec p s.rep).toNat++aY (s.hi-s.lo).toNat)
def eK (vec:List Int)(p:Option aF)(l:List UInt8):Option (aF×List UInt8):=match a6 16 l with
 | none=>none
 | some (st, l1) => if 16 ≤ cj p + st then none else match a6 1000000000 l1 with
   | none=>none
   | some (sk, l2) => match a6 1000000000 l2 with
     | none=>none
     | some (mo,l3)=>if 1000000000<a7 vec p (cj p+st)+sk+mo then none else some (⟨cj p+st,a7 vec p (cj p+st)+sk,a7 vec p (cj p+st)+sk+mo⟩,l3)
def pD (vec:List Int)(hv:∀r,0≤aL vec r):Dh aF where
 g:=jL vec
 F p s:=fj vec p s=true
 f:=eK vec
 P p:=∀q,p=some q→0≤q.rep∧0≤q.hi∧q.lo≤q.hi
 step p x hp h q hq:=by
  cases hq;unfold fj at h;simp only[Bool.and_eq_true,decide_eq_true_eq]at h;refine⟨h.1.1.1.1,?_,h.1.1.2⟩;have h2:=h.2;have:=hv x.rep.toNat;cases p with
  | none=>simp at h2;omega
  | some y =>
    have h3:=(hp y rfl).2.1;simp only[Bool.and_eq_true,decide_eq_true_eq]at h2;have h4:=h2.2
    split at h4<;>simp at h4<;>omega
 law p hp l x r:=by
  have hpr:0≤cj p:=by unfold cj;cases p with | none=>simp | some q=>exact (hp q rfl).1
  have hls:∀rep,0≤a7 vec p rep:=fun rep=>by
   unfold a7;have:=hv rep.toNat;cases p with
   | none=>simp only;omega
   | some q=>have:=(hp q rfl).2.1;simp only;split<;>omega
  have hF:fj vec p x=true↔0≤x.rep∧x.rep<16∧x.lo≤x.hi∧x.hi≤1000000000∧cj p≤x.rep∧a7 vec p x.rep≤x.lo:=by
   unfold fj a7 cj;cases p with
   | none=>simp;omega
   | some q =>
     simp only[Bool.and_eq_true,decide_eq_true_eq];constructor
     ·
      rintro ⟨⟨⟨⟨a,b⟩,c⟩,d⟩,e,f⟩;refine⟨a,b,c,d,e,?_⟩
      split at f<;>rename_i he
      ·
       rw[if_pos he];simpa using f
      ·
       rw[if_neg he];simpa using f
     ·
      rintro ⟨a,b,c,d,e,f⟩;refine⟨⟨⟨⟨a,b⟩,c⟩,d⟩,e,?_⟩
      split at f<;>rename_i he
      ·
       rw[if_pos he];simpa using f
      ·
       rw[if_neg he];simpa using f
  rw[hF];unfold eK jL;constructor
  ·
   intro h
   split at h
   ·
    cases h
   ·
    rename_i st l1 e1
    split at h
    ·
     cases h
    ·
     rename_i hst
     split at h
     ·
      cases h
     ·
      rename_i sk l2 e2
      split at h
      ·
       cases h
      ·
       rename_i mo l3 e3
       split at h
       ·
        cases h
       ·
        rename_i hhi;obtain⟨rfl,_,_⟩:=aU.1 e1;obtain⟨rfl,_,_⟩:=aU.1 e2;obtain⟨rfl,_,_⟩:=aU.1 e3;cases h;have:=hls (cj p+st);refine⟨?_,by simp only;omega,by simp only;omega,by simp only;omega,by simp only;omega,by simp only;omega,by simp only;omega⟩;simp only;rw[show (cj p+(st:Int)-cj p).toNat=st from by omega,show (a7 vec p (cj p+st)+(sk:Int)-a7 vec p (cj p+st)).toNat=sk from by omega,show (a7 vec p (cj p+st)+(sk:Int)+(mo:Int)-(a7 vec p (cj p+st)+(sk:Int))).toNat=mo from by omega];simp only[List.append_assoc]
  ·
   rintro ⟨rfl,a,b,c,d,e,f⟩;have:=hls x.rep;rw[List.append_assoc,aU.2 ⟨rfl,by omega,by omega⟩];simp only;have e1:cj p+((x.rep-cj p).toNat:Int)=x.rep:=by omega
   rw[e1,if_neg (by omega),List.append_assoc,aU.2 ⟨rfl,by omega,by omega⟩];simp only;rw[aU.2 ⟨rfl,by omega,by omega⟩];simp only;have e2:a7 vec p x.rep+((x.lo-a7 vec p x.rep).toNat:Int)=x.lo:=by omega
   have e3:x.lo+((x.hi-x.lo).toNat:Int)=x.hi:=by omega
   rw[e2,e3,if_neg (by omega)]
def cE (p:aB):List UInt8:=aY p.vec.length++(seqB (jy 1000000000).g none p.vec++(aY p.ad.length++seqB (jL p.vec) none p.ad))
def dC (l:List UInt8):Option (aB×List UInt8):=match a6 16 l with
 | none=>none
 | some (n, l1) => match dG (jy 1000000000).f n none l1 with
   | none=>none
   | some (vec, l2) => match a6 9223372036854775807 l2 with
     | none=>none
     | some (k, l3) => match dG (eK vec) k none l3 with
       | none=>none
       | some (ad,r)=>some (⟨vec,ad⟩,r)
theorem kD {most:Int}:∀ {l:List Int} {p:Option Int},gv (jy most).F p l↔∀v∈l,0≤v∧v≤most∧v≤9223372036854775807
 | [],_=>by simp[gv]
 | x::l,p=>by rw[gv,kD];simp[jy]
theorem qV {v:List Int}(h:∀x∈v,0≤x)(r:Nat):0≤aL v r:=by
 unfold aL;cases e:v[r]? with
 | none=>simp
 | some x=>exact h x (List.mem_of_getElem? e)
theorem fQ {l r:List UInt8}{p:aB}(hp:p.ad.length≤9223372036854775807):dC l=some (p,r)↔l=cE p++r∧zf p:=by
 unfold dC cE;constructor
 ·
  intro h
  split at h
  ·
   cases h
  ·
   rename_i n l1 e1
   split at h
   ·
    cases h
   ·
    rename_i vec l2 e2
    split at h
    ·
     cases h
    ·
     rename_i k l3 e3
     split at h
     ·
      cases h
     ·
      rename_i ad r' e4;cases h;obtain⟨rfl,h1,_⟩:=aU.1 e1;obtain⟨rfl,h3,h4⟩:=((jy 1000000000).seq _ none trivial _ _ _).1 e2;obtain⟨rfl,_,_⟩:=aU.1 e3;have hv:=kD.1 h3;obtain⟨rfl,h5,h6⟩:=((pD vec (qV fun x hx=>(hv x hx).1)).seq _ none (fun q hq=>by cases hq) _ _ _).1 e4;subst h4 h6;refine⟨by simp only[List.append_assoc];rfl,⟨by show vec.length≤16;omega,fun v hx=>⟨(hv v hx).1,(hv v hx).2.1⟩,np.2 h5⟩⟩
 ·
  rintro ⟨rfl,h1,h2,h3⟩;rw[List.append_assoc,aU.2 ⟨rfl,by omega,by omega⟩];simp only;rw[List.append_assoc,((jy 1000000000).seq _ none trivial _ _ _).2 ⟨rfl,kD.2 fun v hv=>⟨(h2 v hv).1,(h2 v hv).2,by have:=(h2 v hv).2;omega⟩,rfl⟩];simp only;rw[List.append_assoc,aU.2 ⟨rfl,by omega,hp⟩];simp only;have e:=((pD p.vec (qV fun x hx=>(h2 x hx).1)).seq p.ad.length none (fun q hq=>by cases hq) (seqB (jL p.vec) none p.ad++r) p.ad r).2 ⟨rfl,np.1 h3,rfl⟩;rw[show dG (eK p.vec) p.ad.length none (seqB (jL p.vec) none p.ad++r)=some (p.ad,r) from e]
theorem sv (vec:List Int)(p:Option aF)(s:aF):3≤(jL vec p s).length:=by
 unfold jL;have:=cb (s.rep-cj p).toNat;have:=cb (s.lo-a7 vec p s.rep).toNat;have:=cb (s.hi-s.lo).toNat;simp only[List.length_append];omega
theorem AL {α:Type}(M:Dh α){c k:Nat}{p:Option α}{l r:List UInt8}{xs:List α}(hp:M.P p)(hk:∀p x,k≤(M.g p x).length)(h:dG M.f c p l=some (xs,r)):xs.length=c∧c * k+r.length≤l.length:=by
 obtain⟨rfl,_,h3⟩:=(M.seq c p hp l xs r).1 h;have:=gC hk xs p;subst h3;rw[List.length_append];exact⟨rfl,by omega⟩
def aZ (p:Option aM):Int:=match p with | some q=>q.rep | none=>0
def cM (p:Option aM)(rep:Int):Int:=match p with
 | some q=>if q.rep=rep then q.num+1 else 1
 | none=>1
def kG (p:Option aM)(e:aM):List UInt8:=aY (e.rep-aZ p).toNat++(aY (e.num-cM p e.rep).toNat++(aY e.cg.data.toList.length++(e.cg.data.toList++aY (e.pF-1).toNat)))
def jx (p:Option aM)(l:List UInt8):Option (aM×List UInt8):=match a6 16 l with
 | none=>none
 | some (st, l1) => match a6 1000000000 l1 with
   | none=>none
   | some (sk, l2) => if 16 ≤ aZ p + st ∨ 1000000000 < cM p (aZ p + st) + sk then none else match bX 24 l2 with
     | none=>none
     | some (t, l3) => match a6 1000000 l3 with
       | none=>none
       | some (q,l4)=>some (⟨aZ p+st,cM p (aZ p+st)+sk,str t,q+1⟩,l4)
def lU (p:Option aM)(e:aM):Prop:=0≤e.rep∧e.rep<16∧1≤e.num∧e.num≤1000000000∧e.cg.data.toList.length≤24∧1≤e.pF∧e.pF≤1000001∧aZ p≤e.rep∧cM p e.rep≤e.num
theorem uk (s:ByteArray):str s.data.toList=s:=by cases s;rfl
theorem u2 (l:List UInt8):(str l).data.toList=l:=rfl
def tD:Dh aM where
 g:=kG
 F:=lU
 f:=jx
 P p:=∀q,p=some q→0≤q.rep∧0≤q.num
 step p x hp h q hq:=by cases hq;exact⟨h.1,by have:=h.2.2.1;omega⟩
 law p hp l x r:=by
  have hpr:0≤aZ p:=by unfold aZ;cases p with | none=>simp | some q=>exact (hp q rfl).1
  have hls:∀rep,1≤cM p rep:=fun rep=>by
   unfold cM;cases p with
   | none=>simp
   | some q=>have:=(hp q rfl).2;simp only;split<;>omega
  unfold jx kG lU;constructor
  ·
   intro h
   split at h
   ·
    cases h
   ·
    rename_i st l1 e1
    split at h
    ·
     cases h
    ·
     rename_i sk l2 e2
     split at h
     ·
      cases h
     ·
      rename_i hc
      split at h
      ·
       cases h
      ·
       rename_i t l3 e3
       split at h
       ·
        cases h
       ·
        rename_i q l4 e4;cases h;obtain⟨rfl,_,_⟩:=aU.1 e1;obtain⟨rfl,_,_⟩:=aU.1 e2;obtain⟨rfl,h5,_⟩:=dh.1 e3;obtain⟨rfl,h6,_⟩:=aU.1 e4;have:=hls (aZ p+st);simp only[u2];refine⟨?_,by omega,by omega,by omega,by omega,by omega,by omega,by omega,by omega,by omega⟩;rw[show (aZ p+(st:Int)-aZ p).toNat=st from by omega,show (cM p (aZ p+st)+(sk:Int)-cM p (aZ p+st)).toNat=sk from by omega,show ((q:Int)+1-1).toNat=q from by omega];simp only[List.append_assoc]
  ·
   rintro ⟨rfl,a,b,c,d,e,f,g,i,j⟩;have:=hls x.rep;rw[List.append_assoc,aU.2 ⟨rfl,by omega,by omega⟩];simp only;rw[List.append_assoc,aU.2 ⟨rfl,by omega,by omega⟩];simp only;have e1:aZ p+((x.rep-aZ p).toNat:Int)=x.rep:=by omega
   have e2:cM p x.rep+((x.num-cM p x.rep).toNat:Int)=x.num:=by omega
   rw[e1,e2,if_neg (by omega)];have e3:=(dh (most:=24) (l:=aY x.cg.data.toList.length++(x.cg.data.toList++aY (x.pF-1).toNat)++r) (s:=x.cg.data.toList) (r:=aY (x.pF-1).toNat++r)).2 ⟨by simp only[List.append_assoc],by omega,by omega⟩;rw[e3];simp only;rw[aU.2 ⟨rfl,by omega,by omega⟩];simp only[uk];rw[show ((x.pF-1).toNat:Int)+1=x.pF from by omega]
theorem A6 (p:Option aM)(e:aM):5-1≤(kG p e).length:=by
 unfold kG;have:=cb (e.rep-aZ p).toNat;have:=cb (e.num-cM p e.rep).toNat;have:=cb e.cg.data.toList.length;have:=cb (e.pF-1).toNat;simp only[List.length_append];omega
def cu (es:List aM):List UInt8:=aY es.length++seqB kG none es
theorem lR {es:List aM}(h:cO es=true):gv lU none es:=by
 refine r8 (F:=fun p x=>oh p x=true) ?_ (np.1 h);intro p x h;unfold oh rJ dR at h;simp only[Bool.and_eq_true,decide_eq_true_eq]at h;obtain⟨⟨⟨⟨⟨⟨⟨a,b⟩,c⟩,d⟩,s⟩,q⟩,r⟩,k⟩:=h
 have hs:x.cg.data.toList.length≤24:=by
  unfold nc xI rm at s
  split at s
  ·
   simp at s
  ·
   split at s
   ·
    simp at s
   ·
    omega
 refine⟨a,b,c,d,hs,q,by omega,?_,?_⟩
 ·
  unfold aZ;cases p with
  | none=>exact a
  | some y=>unfold vQ at k;simp at k;simp only;omega
 ·
  unfold cM;cases p with
  | none=>exact c
  | some y=>unfold vQ at k;simp at k;simp only;split<;>omega
def jG (_:Option br)(r:br):List UInt8:=aY r.cg.data.toList.length++(r.cg.data.toList++cE r.a8)
def pq (_:Option br)(l:List UInt8):Option (br×List UInt8):=match bX 24 l with
 | none=>none
 | some (t, l1) => match dC l1 with
   | none=>none
   | some (p,r)=>some (⟨str t,p⟩,r)
def AQ (_:Option br)(r:br):Prop:=r.cg.data.toList.length≤24∧zf r.a8∧r.a8.ad.length≤9223372036854775807
theorem vl {l r:List UInt8}{p:aB}(h:dC l=some (p,r)):p.ad.length≤9223372036854775807:=by
 unfold dC at h
 split at h
 ·
  cases h
 ·
  split at h
  ·
   cases h
  ·
   rename_i vec l2 e2
   split at h
   ·
    cases h
   ·
    rename_i k l3 e3
    split at h
    ·
     cases h
    ·
     rename_i ad r' e4;cases h;obtain⟨_,h3,_⟩:=((jy 1000000000).seq _ none trivial _ _ _).1 e2;have hv:=kD.1 h3;obtain⟨_,_,h6⟩:=((pD vec (qV fun x hx=>(hv x hx).1)).seq _ none (fun q hq=>by cases hq) _ _ _).1 e4;have:=(aU.1 e3).2.2;show ad.length≤_;omega
def tW:Dh br where
 g:=jG
 F:=AQ
 f:=pq
 P _:=True
 step _ _ _ _:=trivial
 law p hp l x r:=by
  unfold pq jG AQ;constructor
  ·
   intro h
   split at h
   ·
    cases h
   ·
    rename_i t l1 e1
    split at h
    ·
     cases h
    ·
     rename_i q r' e2;cases h;have hc:=vl e2;obtain⟨rfl,h1,_⟩:=dh.1 e1;obtain⟨rfl,h2⟩:=(fQ hc).1 e2;simp only[u2];exact⟨by simp only[List.append_assoc],by omega,h2,hc⟩
  ·
   rintro ⟨rfl,h1,h2,h3⟩;have e3:=(dh (most:=24) (l:=aY x.cg.data.toList.length++(x.cg.data.toList++cE x.a8)++r) (s:=x.cg.data.toList) (r:=cE x.a8++r)).2 ⟨by simp only[List.append_assoc],by omega,by omega⟩;rw[e3];simp only;rw[(fQ h3).2 ⟨rfl,h2⟩];simp only[uk]
def bM (rs:List br):List UInt8:=aY rs.length++seqB jG none rs
end Go.Proofs.YtkjabaihpkbfhaaGreat.Wk
namespace Go.Proofs.YtkjabaihpkbfhaaGreat.Wk
open Go Go.RowKit Go.Proofs.YtkjabaihpkbfhaaGreat Go.Proofs.YtkjabaihpkbfhaaGreat.K Go.Proofs.YtkjabaihpkbfhaaGreat.T
def mI (p:Nat)(A:Option Addr)(c:Nat)(bs:List UInt8)(bad:Bool):As:=aS p (.cells #[.slice A bs.length c,.bool bad] 449)
theorem bO (W w:World)(L:List As)(p:Nat)(A:Option Addr)(c:Nat)(bs:List UInt8)(bad:Bool)(n:Int)(hS:Sat W w (mI p A c (bs) bad::row 5 1 (.slice A (bs).length c) (bs).length ((bs).map ao)::L))(hl:bs.length≤140737488350000)(hn:n≤9223372036854775807):Calls Tryz.prog 90 #[.pointer (some ⟨p,0,none⟩),.int .i64 n] w fun e w'=>e=.returned (.tuple #[])∧∃A' c',Sat W w' (mI p A' c' (bs++(pb 1 n false .empty).1) (bad || !(pb 1 n false .empty).2)::row 5 1 (.slice A' (bs++(pb 1 n false .empty).1).length c') (bs++(pb 1 n false .empty).1).length ((bs++(pb 1 n false .empty).1).map ao)::L):=by
 refine enter Tryz.func90 rfl rfl rfl (.cons (i:=0) rfl (.cons (i:=1) rfl .nil)) ?_;intro a hA;change Sat W w (aS p (.cells #[.slice A bs.length c,.bool bad] 449)::_) at hS;refine rC 4 hA ?_;clear hA a;refine lv 0 0 (qT rfl rfl si) ?_ ?_
 ·intro h5;intro a hA;contradiction
 ·intro h5;refine uO 9 ?_;refine ba 0 0 (aA rfl rfl) ?_ ?_
  ·intro h7;refine uO 6 ?_;refine u1 0 (aI rfl) ?_;refine u1 0 (aa rfl pG) ?_;intro a hA;refine jQ hA rfl rfl zR Co rfl hS rfl ?_;clear hS;intro w hS;refine rO 4 hA ?_;clear hA a;intro a hA;refine fW hA rfl  ?_
   first
    | (rw[BJ (by omega)];refine⟨rfl,A,c,?_⟩;simp only[List.append_nil,Bool.not_false,Bool.or_true];exact hS)
    | (rw[mZ (by omega),Int.toNat_natCast];refine⟨rfl,A1,c1,?_⟩;simp only[Bool.not_true,Bool.or_false];exact hS)
  ·intro h7;refine uO 8 ?_;refine u1 0 (aI rfl) ?_;refine u1 0 (aa rfl gf) ?_;refine u1 0 (ld rfl ed) ?_;obtain⟨m,rfl⟩:=Int.eq_ofNat_of_zero_le (show 0≤n by omega);refine uO 1 ?_;refine uF xr rfl (gX _ _ _ _ _ _ m (hS.p 1) (by omega) (by omega)) ?_;clear hS;rintro e w ⟨A1,c1,rfl,hS⟩;refine⟨_,rfl,?_⟩;refine u1 0 (aI rfl) ?_;refine u1 0 (aa rfl gf) ?_;intro a hA;refine jQ hA rfl rfl ed gl rfl (hS.p 1) rfl ?_;clear hS;intro w hS;refine rO 1 hA ?_;clear hA a;intro a hA;refine dP (e:=.ret) ?_;refine fW hA rfl  ?_
   first
    | (rw[BJ (by omega)];refine⟨rfl,A,c,?_⟩;simp only[List.append_nil,Bool.not_false,Bool.or_true];exact hS)
    | (rw[mZ (by omega),Int.toNat_natCast];refine⟨rfl,A1,c1,?_⟩;simp only[Bool.not_true,Bool.or_false];exact hS)
theorem j9 (W w:World)(L:List As)(p:Nat)(A:Option Addr)(c:Nat)(bs:List UInt8)(bad:Bool)(s:ByteArray)(hS:Sat W w (mI p A c (bs) bad::row 5 1 (.slice A (bs).length c) (bs).length ((bs).map ao)::L))(hl:bs.length≤140737488350000)(hl2:bs.length+s.size≤140737488350000):Calls Tryz.prog 391 #[.pointer (some ⟨p,0,none⟩),.string s] w fun e w'=>e=.returned (.tuple #[])∧∃A' c',Sat W w' (mI p A' c' (bs++(pb 3 0 false s).1) bad::row 5 1 (.slice A' (bs++(pb 3 0 false s).1).length c') (bs++(pb 3 0 false s).1).length ((bs++(pb 3 0 false s).1).map ao)::L):=by
 refine enter Tryz.func391 rfl rfl rfl (.cons (i:=0) rfl (.cons (i:=1) rfl .nil)) ?_;intro a hA;change Sat W w (aS p (.cells #[.slice A bs.length c,.bool bad] 449)::_) at hS;refine rC 3 hA ?_;clear hA a;refine lv 0 0 (zJ rfl rfl si) ?_ ?_
 ·intro h5;refine uO 6 ?_;refine u1 0 (aI rfl) ?_;refine u1 0 (aa rfl gf) ?_;refine u1 1 (ld rfl ed) ?_;refine uF E7 rfl (rR _ _ _ _ _ _ s (hS.p 1) (by omega)) ?_;clear hS;rintro e w ⟨A1,c1,rfl,hS⟩;refine⟨_,rfl,?_⟩;refine u1 0 (aI rfl) ?_;refine u1 0 (aa rfl gf) ?_;intro a hA;refine jQ hA rfl rfl ed gl rfl (hS.p 1) rfl ?_;clear hS;intro w hS;refine rO 1 hA ?_;clear hA a;intro a hA;refine dP (e:=.ret) ?_;refine fW hA rfl  ?_;exact⟨rfl,_,_,hS⟩
 ·intro h5;intro a hA;contradiction
theorem j7 (W:World)(W0:World)(L:List As)(p:Nat)(A:Option Addr)(c:Nat)(bs:List UInt8)(bad:Bool)(s0:Sat W0 W (mI p A c (bs) bad::L))(hR:Rd W 1 (.slice A bs.length c) bs.length (bs.map ao))(hl:bs.length≤140737488350000):Calls Tryz.prog 92 #[.pointer (some ⟨p,0,none⟩)] W fun e w'=>∃A' c',e=.returned (.tuple #[.slice A' (if bad then [] else bs).length c',.int .i64 (((if bad then 2 else 0):Nat):Int)])∧Sat W w' [row 5 1 (.slice A' (if bad then [] else bs).length c') (if bad then [] else bs).length ((if bad then [] else bs).map ao)]:=by
 refine enter Tryz.func92 rfl rfl rfl (.cons (i:=0) rfl .nil) ?_;have hS:=Sat.start W;intro a hA;change Sat W0 W (aS p (.cells #[.slice A bs.length c,.bool bad] 449)::L) at s0;refine rC 10 hA ?_;clear hA a;refine lv 0 0 (qT rfl rfl si) ?_ ?_
 ·intro h5;intro a hA;contradiction
 ·intro h5;refine uO 2 ?_;refine u1 0 (aI rfl) ?_;refine u1 0 (aa rfl pG) ?_;refine u1 0 (av rfl zR (s0.mW hS rfl)) ?_;refine lv 0 0 (qD rfl rfl) ?_ ?_
  ·intro h11;refine uO 11 ?_;refine gT ?_
   first
    | (subst h11;exact⟨none,0,rfl,hS.bp 5 1⟩)
    | (subst h11;exact⟨_,_,rfl,hS⟩)
  ·intro h11;refine uO 8 ?_;refine u1 0 (aI rfl) ?_;refine u1 0 (aa rfl gf) ?_;refine u1 0 (av rfl ed (s0.mW hS rfl)) ?_;refine uF Au rfl (ll _ _ _ bs (hR.sat hS) (by omega)) ?_;rintro e w ⟨A1,c1,rfl,hT⟩;replace hS:=hS.ay hT;clear hT;refine⟨_,rfl,?_⟩;refine uO 5 ?_;refine gT ?_
   first
    | (subst h11;exact⟨none,0,rfl,hS.bp 5 1⟩)
    | (subst h11;exact⟨_,_,rfl,hS⟩)
end Go.Proofs.YtkjabaihpkbfhaaGreat.Wk
namespace Go.Proofs.YtkjabaihpkbfhaaGreat.Wk
open Go Go.RowKit Go.Proofs.YtkjabaihpkbfhaaGreat Go.Proofs.YtkjabaihpkbfhaaGreat.K
theorem hJ {α:Type}{g:Option α→α→List UInt8}{xs:List α}{i:Nat}{x:α}(h:xs[i]?=some x):seqB g none (xs.take (i+1))=seqB g none (xs.take i)++g (ahead none xs i) x:=by
 rw[aP h,o6]
 congr 2
 have hi:=(List.getElem?_eq_some_iff.1 h).1;unfold ahead
 by_cases h0:i=0
 ·
  subst h0;simp
 ·
  rw[if_neg h0]
  have:(xs.take i).getLast?=xs[i-1]?:=by
   rw[List.getLast?_eq_getElem?,List.length_take,Nat.min_eq_left (by omega),List.getElem?_take,if_pos (by omega)]
  rw[this,List.getElem?_eq_getElem (by omega)]
theorem yn {α:Type}{xs:List α}{i:Nat}(hi:i≤xs.length):(xs.take i).getLast?=ahead none xs i:=by
 unfold ahead
 by_cases h0:i=0
 ·
  subst h0;simp
 ·
  rw[if_neg h0,List.getLast?_eq_getElem?,List.length_take,Nat.min_eq_left hi,List.getElem?_take,if_pos (by omega)]
theorem fS {α:Type}{xs:List α}{i:Nat}{x:α}(h:xs[i]?=some x):ahead none xs (i+1)=some x:=by unfold ahead;rw[if_neg (by omega)];exact h
theorem xe {vec:List Int}{p:Option aF}{s:aF}(h:fj vec p s=true):0≤s.rep∧s.rep<16∧s.lo≤s.hi∧s.hi≤1000000000∧cj p≤s.rep∧a7 vec p s.rep≤s.lo:=by
 unfold fj at h;unfold a7 cj;cases p with
 | none=>simp at h;simp only;omega
 | some q =>
   simp only[Bool.and_eq_true,decide_eq_true_eq]at h;obtain⟨⟨⟨⟨a,b⟩,c⟩,d⟩,e,f⟩:=h;refine⟨a,b,c,d,e,?_⟩;simp only
   split at f<;>rename_i he
   ·
    rw[if_pos he];simpa using f
   ·
    rw[if_neg he];simpa using f
theorem fV {p:aB}(h:zf p){i:Nat}{s:aF}(hs:p.ad[i]?=some s):0≤s.rep∧s.rep<16∧s.lo≤s.hi∧s.hi≤1000000000∧cj (ahead none p.ad i)≤s.rep∧a7 p.vec (ahead none p.ad i) s.rep≤s.lo:=xe (iP h.ad i s hs)
theorem tT {p:aB}(h:zf p):∀(i:Nat) (s:aF),p.ad[i]?=some s→1≤s.lo:=by
 intro i
 induction i with
 | zero =>
   intro s hs;obtain⟨a,b,c,d,f,g⟩:=fV h hs;have hv:=cP h.vec s.rep.toNat;simp[ahead,a7]at g;omega
 | succ i ih =>
   intro s hs;have hi:=(List.getElem?_eq_some_iff.1 hs).1;have hq:p.ad[i]?=some p.ad[i]:=List.getElem?_eq_getElem (by omega);obtain⟨a,b,c,d,f,g⟩:=fV h hs;rw[fS hq]at g;have hv:=cP h.vec s.rep.toNat;have h1:=ih _ hq;have h2:=(fV h hq).2.2.1;unfold a7 at g;simp only at g
   split at g<;>omega
theorem tf {p:aB}(h:zf p){i:Nat}(r:Int):0≤a7 p.vec (ahead none p.ad i) r∧a7 p.vec (ahead none p.ad i) r≤1000000002:=by
 have hv:=cP h.vec r.toNat;unfold a7;cases e:ahead none p.ad i with
 | none=>simp only;omega
 | some q =>
   simp only
   split
   ·
    unfold ahead at e
    split at e
    ·
     cases e
    ·
     obtain⟨a,b,c,d,f,g⟩:=fV h e;have:=tT h _ _ e;omega
   ·
    omega
theorem vv {p:aB}(h:zf p)(i:Nat):0≤cj (ahead none p.ad i):=by
 unfold cj;cases e:ahead none p.ad i with
 | none=>simp
 | some q =>
   unfold ahead at e
   split at e
   ·
    cases e
   ·
    exact (fV h e).1
theorem wQ {es:List aM}(h:gv lU none es){i:Nat}{e:aM}(he:es[i]?=some e):lU (ahead none es i) e:=by
 have:∀(l:List aM) (p:Option aM) (i:Nat) (e:aM),gv lU p l→l[i]?=some e→lU (ahead p l i) e:=by
  intro l
  induction l with
  | nil=>intro p i e _ h;simp at h
  | cons y l ih =>
    intro p i e hc hi;cases i with
    | zero=>simp at hi;subst hi;simpa[ahead]using hc.1
    | succ i =>
      have h1:=ih (some y) i e hc.2 (by simpa using hi)
      have e2:ahead p (y::l) (i+1)=ahead (some y) l i:=by
       unfold ahead;simp;cases i with
       | zero=>simp
       | succ i=>simp
      rw[e2];exact h1
 exact this es none i e h he
theorem sH {α:Type}{enc:α→List Value}{k:Nat}(hk:∀x,(enc x).length=k):∀(xs:List α) (i:Nat),(xs.flatMap enc).take (i * k)=(xs.take i).flatMap enc
 | xs,0=>by simp
 | [],i+1=>by simp
 | x :: xs, i + 1 => by
   rw[List.flatMap_cons,List.take_append,List.take_of_length_le (by rw[hk,Nat.add_mul];omega),hk,show (i+1) * k-k=i * k from by rw[Nat.add_mul];omega,sH hk xs i]
   rfl
theorem yB {w:World}{A:Option Addr}{c n i:Nat}{xs:List aF}(h:Rd w 3 (.slice A n c) n (xs.flatMap iJ))(hi:i≤n):Rd w 3 (.slice (gR A c 3 0) i c) i ((xs.take i).flatMap iJ):=by
 have:=Rd.Cx h i hi;rwa[sH vB]at this
theorem mM {vec:List Int}{cl:List aF}{n:Nat}{s:aF}(hn:n=cl.length)(hs:cl[n-1]?=some s):cl.getLast?=some s:=by subst hn;rw[List.getLast?_eq_getElem?];exact hs
end Go.Proofs.YtkjabaihpkbfhaaGreat.Wk
namespace Go.Proofs.YtkjabaihpkbfhaaGreat.Wk
open Go Go.RowKit Go.Proofs.YtkjabaihpkbfhaaGreat Go.Proofs.YtkjabaihpkbfhaaGreat.K Go.Proofs.YtkjabaihpkbfhaaGreat.T
theorem oX (W:World)(A:Option Addr)(c:Nat)(vec:List Int)(r:Int)(B:Option Addr)(n d:Nat)(cl:List aF)(hV:rM W A c vec)(hC:Rd W 3 (.slice B n d) n (cl.flatMap iJ))(hn:n=cl.length)(hr0:0≤r)(hr1:r≤1000)(hv0:∀v∈vec,0≤v∧v≤1000000000)(hc0:∀s∈cl,0≤s.hi∧s.hi≤1000000000)(hl1:vec.length≤1000000000000)(hl2:n≤1000000000000):Calls Tryz.prog 392 #[.slice A (vec).length c,.int .i64 r,.slice B n d] W fun e w'=>e=.returned (.int .i64 (a7 vec cl.getLast? r))∧Sat W w' []:=by
 refine enter Tryz.func392 rfl rfl rfl (.cons (i:=0) rfl (.cons (i:=1) rfl (.cons (i:=2) rfl .nil))) ?_;have hS:=Sat.start W;refine uC 9 ?_;refine u1 6 (au rfl dZ) ?_;refine ba 0 0 (dW rfl rfl) ?_ ?_
 ·intro h11;refine uO 3 ?_;refine u1 0 (aH (bJ rfl rfl (by omega) (by omega)) (show _=Value.int .i64 ((n-1:Nat):Int) from congrArg (Value.int .i64) (by omega))) ?_;obtain⟨B_p,rfl⟩:∃q,B=some q:=(hC.sat hS).aw (by omega);obtain⟨s,hs⟩:∃zz_,cl[n-1]?=some zz_:=⟨_,List.getElem?_eq_getElem (by omega)⟩;obtain⟨hs1,hs2⟩:=hc0 s (List.mem_of_getElem? hs);refine u1 0 (an rfl rfl dZ dE (by omega) (by omega)) ?_;refine u1 0 (aJ rfl fB) ?_;refine u1 1 (av rfl bq (bS (hC.sat hS) (et hs 0 _ rfl))) ?_;refine ba 0 0 (bN rfl rfl) ?_ ?_
  ·intro h20;refine uO 8 ?_;refine u1 0 (aH (bJ rfl rfl (by omega) (by omega)) (show _=Value.int .i64 ((n-1:Nat):Int) from congrArg (Value.int .i64) (by omega))) ?_;refine u1 0 (an rfl rfl dZ dE (by omega) (by omega)) ?_;refine u1 0 (aJ rfl lT) ?_;refine u1 0 (av rfl bq (bS (hC.sat hS) (et hs 2 _ rfl))) ?_;refine u1 3 (aj rfl rfl (by omega) (by omega)) ?_;intro a hA;replace hA:=hA.kp [0,1,6] rfl;refine rC 2 hA ?_;clear hA a;refine bt ?_;refine⟨?_,hS⟩;unfold a7;rw[mM (vec:=vec) hn hs];simp only;rw[if_pos h20]
  ·intro h20;refine uO 11 ?_;refine u1 0 (au rfl bu) ?_;refine ba 0 0 (aA rfl rfl) ?_ ?_
   ·intro h32;refine uO 2 ?_;intro a hA;replace hA:=hA.kp [0,1,6,32] rfl;refine rC 5 hA ?_;clear hA a;obtain⟨A_p,rfl⟩:∃q,A=some q:=(hV.sat hS).aw (by omega);obtain⟨v,hv⟩:∃zz_,vec[r.toNat]?=some zz_:=⟨_,List.getElem?_eq_getElem (by omega)⟩;obtain⟨hv1,hv2⟩:=hv0 v (List.mem_of_getElem? hv);refine u1 0 (an rfl rfl bu kz (by omega) (by omega)) ?_;refine u1 0 (av rfl bq (ml (hV.sat hS) (ey hv))) ?_;refine u1 5 (aj rfl rfl (by omega) (by omega)) ?_;refine bt ?_;refine⟨?_,hS⟩;unfold a7;rw[mM (vec:=vec) hn hs];simp only;rw[if_neg h20,show aL vec r.toNat=v from by unfold aL;rw[hv]]
   ·intro h32;refine uO 2 ?_;intro a hA;replace hA:=hA.kp [0,1,6,32] rfl;refine rC 9 hA ?_;clear hA a;refine bt ?_;refine⟨?_,hS⟩;unfold a7;rw[mM (vec:=vec) hn hs];simp only;rw[if_neg h20,fI (by omega)]
    rfl
 ·intro h11;refine uO 20 ?_;refine u1 0 (au rfl bu) ?_;refine ba 0 0 (aA rfl rfl) ?_ ?_
  ·intro h32;refine uO 2 ?_;intro a hA;replace hA:=hA.kp [0,1,6,32] rfl;refine rC 5 hA ?_;clear hA a;obtain⟨A_p,rfl⟩:∃q,A=some q:=(hV.sat hS).aw (by omega);obtain⟨v,hv⟩:∃zz_,vec[r.toNat]?=some zz_:=⟨_,List.getElem?_eq_getElem (by omega)⟩;obtain⟨hv1,hv2⟩:=hv0 v (List.mem_of_getElem? hv);refine u1 0 (an rfl rfl bu kz (by omega) (by omega)) ?_;refine u1 0 (av rfl bq (ml (hV.sat hS) (ey hv))) ?_;refine u1 5 (aj rfl rfl (by omega) (by omega)) ?_;refine bt ?_;refine⟨?_,hS⟩;unfold a7;obtain rfl:cl=[]:=List.eq_nil_of_length_eq_zero (by omega);rw[show ([]:List aF).getLast?=none from rfl];simp only;rw[show aL vec r.toNat=v from by unfold aL;rw[hv]]
  ·intro h32;refine uO 2 ?_;intro a hA;replace hA:=hA.kp [0,1,6,32] rfl;refine rC 9 hA ?_;clear hA a;refine bt ?_;refine⟨?_,hS⟩;unfold a7;obtain rfl:cl=[]:=List.eq_nil_of_length_eq_zero (by omega);rw[show ([]:List aF).getLast?=none from rfl];simp only;rw[fI (by omega)]
   rfl
theorem o5 (W w:World)(L:List As)(p:Nat)(A:Option Addr)(c:Nat)(bs:List UInt8)(bad:Bool)(q:PL)(hS:Sat W w (mI p A c (bs) bad::row 5 1 (.slice A (bs).length c) (bs).length ((bs).map ao)::L))(hp:q.ok W)(hk:zf q.d)(hcl:q.d.ad.length≤1000000000)(hl:bs.length≤1000000000000):Calls Tryz.prog 378 #[.pointer (some ⟨p,0,none⟩),.agg #[.slice q.va q.d.vec.length q.vc,.slice q.ca q.d.ad.length q.cc]] w fun e w'=>e=.returned (.tuple #[])∧∃A' c',Sat W w' (mI p A' c' (bs++cE q.d) bad::row 5 1 (.slice A' (bs++cE q.d).length c') (bs++cE q.d).length ((bs++cE q.d).map ao)::L):=by
 refine enter Tryz.func378 rfl rfl rfl (.cons (i:=0) rfl (.cons (i:=1) rfl .nil)) ?_;obtain⟨va,vc,ca,cc,d⟩:=q;have hpv:rM W va vc d.vec:=hp.vec;have hpc:gD W ca cc d.ad:=hp.ad;have hcc:=Di hpc;have hkl:=hk.len;intro a hA;dsimp only at hk hcl hkl hA ⊢;have hvl:d.vec.length≤16:=hkl;have hn0:=ck (n:=((d.vec.length:Nat):Int).toNat) (by omega);have hnc:=ck (n:=((d.ad.length:Nat):Int).toNat) (by omega);refine rC 2 hA ?_;clear hA a;refine uB rfl hS ?_;clear hS;intro b3 w hS;refine uO 3 ?_;intro a hA;refine dV (l1:=[_,_,_,_,_,_]) (l2:=[_]) rfl (by kernel_rfl) (by kernel_rfl) ?_;replace hS:=hS.drew;refine rT 1 hA ?_;clear hA a;refine dO 0 (aI rfl) ?_;refine dO 0 (aa rfl cG) ?_;refine dO 0 (aa rfl cQ) ?_;refine dO 0 (ld rfl gS) ?_;refine dO 0 (au rfl bu) ?_;intro a hA;refine wpStill_nil ?_
 refine wx hA rfl gF rfl (bO _ _ _ p _ _ _ bad _ ((hS.p 2).p 2) (by omega) (by omega)) ?_;clear hA a;clear hS;rintro e w ⟨rfl,A15,c15,hS⟩;rw[mZ (by omega)]at hS;simp only[Bool.not_true,Bool.or_false]at hS;refine⟨_,rfl,?_⟩;refine uO 5 ?_;refine u1 0 (aa rfl cQ) ?_;refine u1 0 (ld rfl gS) ?_;refine u1 4 (au rfl bu) ?_;intro a hA
 refine wp_loop_ghost (fun (mm:Nat) a w=>∃(i:Nat) (out:List UInt8) (Ao:Option Addr) (co:Nat),Ag a 80 [(0,.pointer (some ⟨p,0,none⟩)),(3,.pointer (some ⟨b3,0,none⟩)),(17,.slice va (d.vec).length vc),(18,.int .i64 ((d.vec.length:Nat):Int)),(19,.int .i64 ((i:Nat):Int))]∧Sat W w (mI p Ao co (out) bad::row 5 1 (.slice Ao (out).length co) (out).length ((out).map ao)::aS b3 (.cells #[.slice va d.vec.length vc,.slice ca d.ad.length cc] 63)::L)∧(i≤d.vec.length)∧(out=bs++(aY d.vec.length++seqB (jy 1000000000).g none (d.vec.take i)))∧(out.length≤bs.length+9 * (i+1))∧mm=d.vec.length-i) d.vec.length ?_ ?_
 ·replace hA:=hA.kp [0,3,17,18,19] rfl;exact⟨0,_,_,_,hA,hS,(by omega),(by rw[Int.toNat_natCast];simp[seqB]),(by simp only[List.length_append];omega),by omega⟩
 intro m a w hI;clear hS hA;obtain⟨i,out,Ao,co,hA,hS,hi,ho,hol,rfl⟩:=hI;refine rC 2 hA ?_;clear hA a;refine ba 0 0 (aA rfl rfl) ?_ ?_
 ·intro h20;refine uO 10 ?_;obtain⟨va_p,rfl⟩:∃q,va=some q:=(hpv.sat hS).aw (by omega);obtain⟨x,hx⟩:∃zz_,d.vec[i]?=some zz_:=⟨_,List.getElem?_eq_getElem (by omega)⟩;obtain⟨hx0,hx1⟩:=hk.vec x (List.mem_of_getElem? hx);have hnx:=ck (n:=x.toNat) (by omega);refine u1 0 (an rfl rfl bu kz (by omega) (by omega)) ?_;refine u1 5 (av rfl bq (ml (hpv.sat hS) (ey hx))) ?_;refine u1 0 (aI rfl) ?_;refine u1 1 (aa rfl cG) ?_;refine uF gF rfl (bO _ _ _ p _ _ _ bad x hS (by omega) (by omega)) ?_;clear hS;rintro e w ⟨rfl,A27,c27,hS⟩;rw[mZ (by omega)]at hS;simp only[Bool.not_true,Bool.or_false]at hS;refine⟨_,rfl,?_⟩;refine uO 3 ?_;intro a hA;replace hA:=hA.kp [0,3,5,17,18,19,20,21,22,23,24,25,26] rfl;refine rC 1 hA ?_;clear hA a;refine u1 2 (aj rfl rfl (by omega) (by omega)) ?_;intro a hA;replace hA:=hA.kp [0,3,17,18,19] rfl
  refine⟨d.vec.length-(i+1),by omega,i+1,out++aY x.toNat,_,_,hA,hS,by omega,?_,by simp only[List.length_append];omega,rfl⟩;rw[hJ hx,ho];simp only[List.append_assoc]
  rfl
 ·intro h20;refine uO 10 ?_;intro a hA;refine dV (l1:=[_,_,_,_,_,_]) (l2:=[_]) rfl (by kernel_rfl) (by kernel_rfl) ?_;replace hS:=hS.drew;refine rT 1 hA ?_;clear hA a;refine dO 0 (aI rfl) ?_;refine dO 0 (aa rfl cG) ?_;refine dO 0 (aa rfl dg) ?_;refine dO 0 (ld rfl iM) ?_;refine dO 0 (au rfl dZ) ?_;intro a hA;refine wpStill_nil ?_;refine wx hA rfl gF rfl (bO _ _ _ p _ _ _ bad _ hS (by omega) (by omega)) ?_;clear hA a;clear hS;rintro e w ⟨rfl,A35,c35,hS⟩;rw[mZ (by omega)]at hS;simp only[Bool.not_true,Bool.or_false]at hS;refine⟨_,rfl,?_⟩;refine uO 2 ?_;intro a hA;replace hA:=hA.kp [0,3] rfl;refine rC 7 hA ?_;clear hA a;refine u1 0 (aa rfl dg) ?_;refine u1 0 (ld rfl iM) ?_;refine u1 4 (au rfl dZ) ?_;intro a hA
  refine wp_loop_ghost (fun (mm:Nat) a w=>∃(i:Nat) (out:List UInt8) (Ao:Option Addr) (co:Nat),Ag a 80 [(0,.pointer (some ⟨p,0,none⟩)),(3,.pointer (some ⟨b3,0,none⟩)),(6,.int .i64 ((cj (ahead none d.ad i)))),(37,.slice ca (d.ad).length cc),(38,.int .i64 ((d.ad.length:Nat):Int)),(39,.int .i64 ((i:Nat):Int))]∧Sat W w (mI p Ao co (out) bad::row 5 1 (.slice Ao (out).length co) (out).length ((out).map ao)::aS b3 (.cells #[.slice va d.vec.length vc,.slice ca d.ad.length cc] 63)::L)∧(i≤d.ad.length)∧(out=bs++(aY d.vec.length++(seqB (jy 1000000000).g none d.vec++(aY d.ad.length++seqB (jL d.vec) none (d.ad.take i)))))∧(out.length≤bs.length+200+27 * i)∧mm=d.ad.length-i) d.ad.length ?_ ?_
  ·replace hA:=hA.kp [0,3,6,37,38,39] rfl;exact⟨0,_,_,_,hA,hS,(by omega),(by rw[ho,Int.toNat_natCast,List.take_of_length_le (by omega)];simp[seqB]),(by simp only[List.length_append];omega),by omega⟩
  intro m a w hI;clear hS hA;obtain⟨i,out,Ao,co,hA,hS,hi,ho,hol,rfl⟩:=hI;refine rC 2 hA ?_;clear hA a;refine ba 0 0 (aA rfl rfl) ?_ ?_
  ·intro h40;refine uO 11 ?_;obtain⟨ca_p,rfl⟩:∃q,ca=some q:=(hpc.sat hS).aw (by omega);obtain⟨s,hs⟩:∃zz_,d.ad[i]?=some zz_:=⟨_,List.getElem?_eq_getElem (by omega)⟩;obtain⟨hs0,hs1,hs2,hs3,hs4,hs5⟩:=fV hk hs;obtain⟨hl0,hl1⟩:=tf hk (i:=i) s.rep;have hp0:=vv hk i;have hn1:=ck (n:=(s.rep-cj (ahead none d.ad i)).toNat) (by omega);have hn2:=ck (n:=(s.lo-a7 d.vec (ahead none d.ad i) s.rep).toNat) (by omega);have hn3:=ck (n:=(s.hi-s.lo).toNat) (by omega);have hsl:=tT hk i s hs;refine u1 0 (an rfl rfl dZ dE (by omega) (by omega)) ?_;refine u1 0 (ag (cs:=iJ s) rfl kA dE (fun j u e=>bS (hpc.sat hS) (et hs j u e))) ?_;refine uN xR hS ?_;clear hS;intro b8 w hS;refine uO 1 ?_;refine uW (vs:=[_,_,_]) (cs':=[_,_,_]) rfl rfl dE hS ?_;clear hS;intro w hS;refine uO 3 ?_;intro a hA
   refine dV (l1:=[_,_,_,_,_,_,_]) (l2:=[_]) rfl (by kernel_rfl) (by kernel_rfl) ?_;replace hS:=hS.drew;refine rT 1 hA ?_;clear hA a;refine dO 0 (aI rfl) ?_;refine dO 0 (aa rfl cG) ?_;refine dO 0 (aa rfl fB) ?_;refine dO 1 (ld rfl bq) ?_;refine dO 0 (bJ rfl rfl (by omega) (by omega)) ?_;intro a hA;refine wpStill_nil ?_;refine wx hA rfl gF rfl (bO _ _ _ p _ _ _ bad _ ((hS.p 2).p 2) (by omega) (by omega)) ?_;clear hA a;clear hS;rintro e w ⟨rfl,A51,c51,hS⟩;rw[mZ (by omega)]at hS;simp only[Bool.not_true,Bool.or_false]at hS;refine⟨_,rfl,?_⟩;refine uO 2 ?_;intro a hA;replace hA:=hA.kp [0,3,6,7,8,37,38,39,40,41,42,43,44,45,46,47,48,49,50] rfl;refine rC 1 hA ?_;clear hA a;intro a hA;refine bB [15] hS (by kernel_rfl) ?_;replace hS:=hS.drew;refine rX [0] hA ?_;clear hA a
   refine bF 1 [] rfl (fun w=>(aI rfl)) ?_;refine bF 2 [] rfl (fun w=>(aa rfl cG)) ?_;refine bF 3 [] rfl (fun w=>(aa rfl lr)) ?_;refine dH 4 [] rfl (by exact⟨[],hS⟩) (fun w hT=>have hS:=hT.sat;(ld rfl bq)) ?_;refine bF 5 [] rfl (fun w=>(aa rfl cQ)) ?_;refine dH 6 [] rfl (by exact⟨[],hS⟩) (fun w hT=>have hS:=hT.sat;(ld rfl gS)) ?_;refine bF 7 [] rfl (fun w=>(aa rfl fB)) ?_;refine dH 8 [] rfl (by exact⟨[],hS⟩) (fun w hT=>have hS:=hT.sat;(ld rfl bq)) ?_;refine bF 9 [] rfl (fun w=>(aa rfl dg)) ?_;refine dH 10 [11] rfl (by exact⟨[],hS⟩) (fun w hT=>have hS:=hT.sat;(ld rfl iM)) ?_;refine bF 12 [] rfl (fun w=>(aH (sJ rfl rfl dZ dE (by omega) (by omega)) (show _=Value.slice (gR (some ca_p) cc 3 0) i cc from rfl))) ?_;intro a hA;refine aG 13 (by kernel_rfl) ?_
   refine eF hA rfl rfl Cw rfl (oX _ va vc d.vec s.rep _ i _ (d.ad.take i) (hpv.sat hS) (yB (hpc.sat hS) (by omega)) (by rw[List.length_take];omega) hs0 (by omega) hk.vec (fun z hz=>by obtain⟨k,hz⟩:=List.mem_iff_getElem?.1 (List.mem_of_mem_take hz);have:=fV hk hz;have:=tT hk k z hz;omega) (by omega) (by omega)) ?_;clear hA a;rintro e w ⟨rfl,hT⟩;rw[yn hi];replace hS:Sat _ _ _:=hS.ah hT;clear hT;refine⟨_,rfl,?_⟩;intro a hA;refine⟨.inr fun _=>(by exact⟨[],hS⟩),?_⟩;refine P1 14 [] hA rfl (fun w=>(bJ (hA.ev rfl) (hA.ev rfl) (by omega) (by omega))) ?_;clear hA a;intro a hA;refine aG 15 (by kernel_rfl) ?_;refine eF hA rfl rfl gF rfl (bO _ _ _ p _ _ _ bad _ hS (by (simp only[List.length_append];omega)) (by omega)) ?_
   clear hA a;clear hS;rintro e w ⟨rfl,A67,c67,hS⟩;rw[mZ (by omega)]at hS;simp only[Bool.not_true,Bool.or_false]at hS;refine⟨_,rfl,?_⟩;intro a hA;refine⟨.inl rfl,?_⟩;refine ai (by kernel_rfl) ?_ _;refine rE 2 hA ?_;clear hA a;intro a hA;refine dV (l1:=[_,_,_,_,_,_,_,_]) (l2:=[_]) rfl (by kernel_rfl) (by kernel_rfl) ?_;replace hS:=hS.drew;refine rT 1 hA ?_;clear hA a;refine dO 0 (aI rfl) ?_;refine dO 0 (aa rfl cG) ?_;refine dO 0 (aa rfl lT) ?_;refine dO 0 (ld rfl bq) ?_;refine dO 0 (aa rfl lr) ?_;refine dO 0 (ld rfl bq) ?_;refine dO 0 (bJ rfl rfl (by omega) (by omega)) ?_;intro a hA;refine wpStill_nil ?_;refine wx hA rfl gF rfl (bO _ _ _ p _ _ _ bad _ hS (by (simp only[List.length_append];omega)) (by omega)) ?_
   clear hA a;clear hS;rintro e w ⟨rfl,A76,c76,hS⟩;rw[mZ (by omega)]at hS;simp only[Bool.not_true,Bool.or_false]at hS;refine⟨_,rfl,?_⟩;refine uO 3 ?_;refine u1 0 (aa rfl fB) ?_;refine u1 5 (ld rfl bq) ?_;refine u1 2 (aj rfl rfl (by omega) (by omega)) ?_;intro a hA;replace hA:=hA.kp [0,3,6,37,38,39] rfl;rw[show s.rep=cj (ahead none d.ad (i+1)) from by rw[fS hs];rfl]at hA;refine⟨d.ad.length-(i+1),by omega,i+1,_,_,_,hA,(hS.p 2).drop,by omega,?_,by simp only[List.length_append];omega,rfl⟩;rw[hJ hs,ho];simp only[List.append_assoc]
   rfl
  ·intro h40;refine uO 8 ?_;intro a hA;refine dP (e:=.ret) ?_;refine fW hA rfl  ?_;have hie:i=d.ad.length:=by omega
   rw[hie,List.take_length]at ho;rw[show bs++cE d=out from by rw[ho];rfl];exact⟨rfl,Ao,co,(hS.p 2).drop⟩
end Go.Proofs.YtkjabaihpkbfhaaGreat.Wk
namespace Go.Proofs.YtkjabaihpkbfhaaGreat.Wk
open Go Go.RowKit Go.Proofs.YtkjabaihpkbfhaaGreat Go.Proofs.YtkjabaihpkbfhaaGreat.K
theorem F3 {bs:List UInt8}{i:Nat}{mo:Int}(h:(eQ bs i mo).2.2=0):∃v at':Nat,eQ bs i mo=(v,at',0)∧a6 mo (bs.drop i)=some (v,bs.drop at')∧at'≤bs.length∧(v:Int)≤mo∧v≤9223372036854775807:=by
 have h1:=tI h
 have h2:(dI bs i).2.2=0:=by
  by_cases h2:(dI bs i).2.2=0
  ·
   exact h2
  ·
   rw[pA h2]at h;exact absurd h h2
 have h3:((dI bs i).1:Int)≤mo:=by
  by_cases h3:((dI bs i).1:Int)≤mo
  ·
   exact h3
  ·
   rw[ru h2 (by omega)]at h;cases h
 have h4:=oa h2;rw[rF h2 h3]at h1 ⊢;exact⟨_,_,rfl,h1,h4.2.1,h3,h4.2.2.1⟩
theorem GX {bs:List UInt8}{i:Nat}{ea:Int}(he:1≤ea)(h:(ye bs i ea).2.2=0):∃v at':Nat,ye bs i ea=(v,at',0)∧a6 9223372036854775807 (bs.drop i)=some (v,bs.drop at')∧at'≤bs.length∧v * ea.toNat≤bs.length-at':=by
 by_cases h2:(dI bs i).2.2=0
 ·
  by_cases h3:((bs.length:Int)-((dI bs i).2.1:Int)) / max ea 1<((dI bs i).1:Int)
  ·
   rw[sb h2 h3]at h;simp at h
  ·
   obtain⟨hm1,hm2⟩:=td (bs:=bs) (i:=i);have h4:=oa h2;obtain⟨v,a,hu,hn,ha,_,_⟩:=F3 (bs:=bs) (i:=i) (mo:=9223372036854775807) (by rw[hm1];exact h2);have e1:=(hm2 h2).1;have e2:=(hm2 h2).2;rw[hu]at e1 e2;dsimp only at e1 e2;refine⟨(dI bs i).1,(dI bs i).2.1,wj h2 h3,by rw[←e1,←e2];exact hn,h4.2.1,?_⟩;rw[show max ea 1=ea from by omega]at h3;have h5:((dI bs i).1:Int)≤((bs.length:Int)-((dI bs i).2.1:Int)) / ea:=by omega
   have h6:=(Int.le_ediv_iff_mul_le (by omega:0<ea)).1 h5;have h7:(((dI bs i).1 * ea.toNat:Nat):Int)=((dI bs i).1:Int) * ea:=by rw[Int.natCast_mul,Int.toNat_of_nonneg (by omega)]
   have:=h4.2.1;omega
 ·
  rw[w0 h2]at h;exact absurd h h2
theorem C2 {bs:List UInt8}{i:Nat}{ea:Int}(he:1≤ea)(h:(ye bs i ea).2.2≠0):a6 9223372036854775807 (bs.drop i)=none∨∃(v:Nat) (r:List UInt8),a6 9223372036854775807 (bs.drop i)=some (v,r)∧r.length<v * ea.toNat:=by
 obtain⟨hm1,hm2⟩:=td (bs:=bs) (i:=i)
 by_cases h2:(dI bs i).2.2=0
 ·
  by_cases h3:((bs.length:Int)-((dI bs i).2.1:Int)) / max ea 1<((dI bs i).1:Int)
  ·
   right
   have h4:=oa h2;obtain⟨v,a,hu,hn,ha,_,_⟩:=F3 (bs:=bs) (i:=i) (mo:=9223372036854775807) (by rw[hm1];exact h2);have e1:=(hm2 h2).1;have e2:=(hm2 h2).2;rw[hu]at e1 e2;dsimp only at e1 e2;refine⟨v,_,hn,?_⟩;rw[show max ea 1=ea from by omega]at h3;rw[←e1,←e2]at h3;have h5:¬((v:Int)≤((bs.length:Int)-(a:Int)) / ea):=by omega
   have h6:¬((v:Int) * ea≤(bs.length:Int)-(a:Int)):=fun hc=>h5 ((Int.le_ediv_iff_mul_le (by omega:0<ea)).2 hc)
   have h7:((v * ea.toNat:Nat):Int)=(v:Int) * ea:=by rw[Int.natCast_mul,Int.toNat_of_nonneg (by omega)]
   rw[List.length_drop];omega
  ·
   rw[wj h2 h3]at h;exact absurd rfl h
 ·
  left;exact rq (by rw[hm1];exact h2)
theorem GH {bs:List UInt8}{i:Nat}{mo:Int}(h:(ku bs i mo).2.2=0):∃(s:List UInt8) (at':Nat),ku bs i mo=(s,at',0)∧bX mo (bs.drop i)=some (s,bs.drop at')∧at'≤bs.length:=by
 have h1:=zM h;refine⟨(ku bs i mo).1,(ku bs i mo).2.1,by rw[←h],h1,?_⟩
 by_cases h2:(eQ bs i mo).2.2=0
 ·
  by_cases h3:(eQ bs i mo).1≤bs.length-(eQ bs i mo).2.1
  ·
   rw[pT h2 h3];obtain⟨v,a,hu,_,ha,_,_⟩:=F3 h2;rw[hu]at h3 ⊢;dsimp only at h3 ⊢;omega
  ·
   rw[lz h2 (by omega)]at h;simp at h
 ·
  rw[pH h2]at h;exact absurd h h2
def n5 (p:Option aM):Int:=match p with | some q=>q.num+1 | none=>1
theorem lJ {p:Option aM}{r:Int}(h:r≠aZ p):cM p r=1:=by
 unfold cM;unfold aZ at h;cases p with
 | none=>rfl
 | some q=>simp only at h ⊢;rw[if_neg (fun e=>h e.symm)]
theorem jX {p:Option aM}{r:Int}(h:r=aZ p):cM p r=n5 p:=by
 unfold cM n5;unfold aZ at h;cases p with
 | none=>rfl
 | some q=>simp only at h ⊢;rw[if_pos h.symm]
theorem xF {es:List aM}(h:gv lU none es)(i:Nat):1≤n5 (ahead none es i)∧n5 (ahead none es i)≤1000000001:=by
 unfold n5;cases e:ahead none es i with
 | none=>simp
 | some q =>
   unfold ahead at e
   split at e
   ·
    cases e
   ·
    have:=wQ h e;unfold lU at this;simp only;omega
theorem x5 {es:List aM}(h:gv lU none es)(i:Nat)(r:Int):1≤cM (ahead none es i) r∧cM (ahead none es i) r≤1000000001:=by
 by_cases e:r=aZ (ahead none es i)
 ·
  rw[jX e];exact xF h i
 ·
  rw[lJ e];omega
theorem tK {es:List aM}(h:gv lU none es)(i:Nat):0≤aZ (ahead none es i):=by
 unfold aZ;cases e:ahead none es i with
 | none=>simp
 | some q =>
   unfold ahead at e
   split at e
   ·
    cases e
   ·
    exact (wQ h e).1
theorem w8 {α:Type}{g:Option α→α→List UInt8}:∀(xs:List α) (p:Option α) (i:Nat),(seqB g p (xs.take i)).length≤(seqB g p xs).length
 | [],p,i=>by simp
 | x::xs,p,0=>by simp[seqB]
 | x :: xs, p, i + 1 => by
   rw[List.take_succ_cons,seqB,seqB,List.length_append,List.length_append];have:=w8 (g:=g) xs (some x) i;omega
theorem oF {r:br}(h:jJ r=true):r.cg.data.toList.length≤24∧uE r.a8:=by
 unfold jJ at h;simp only[Bool.and_eq_true,Bool.or_eq_true,decide_eq_true_eq]at h;refine⟨?_,gu.1 h.2.1⟩;rcases h.1 with h1 | h1
 ·
  rw[h1];simp
 ·
  unfold nc xI rm at h1
  split at h1
  ·
   simp at h1
  ·
   split at h1
   ·
    simp at h1
   ·
    omega
end Go.Proofs.YtkjabaihpkbfhaaGreat.Wk
namespace Go.Proofs.YtkjabaihpkbfhaaGreat.Wk
open Go Go.RowKit Go.Proofs.YtkjabaihpkbfhaaGreat Go.Proofs.YtkjabaihpkbfhaaGreat.K Go.Proofs.YtkjabaihpkbfhaaGreat.T
theorem uI (W w:World)(L:List As)(p:Nat)(A:Option Addr)(c:Nat)(bs:List UInt8)(bad:Bool)(B:Option Addr)(d:Nat)(xs:List aM)(hS:Sat W w (mI p A c (bs) bad::row 5 1 (.slice A (bs).length c) (bs).length ((bs).map ao)::L))(hX:iz W B d xs)(hk:gv lU none xs)(hxl:xs.length≤1000000000)(hl:bs.length≤1000000000000):Calls Tryz.prog 377 #[.pointer (some ⟨p,0,none⟩),.slice B (xs).length d] w fun e w'=>e=.returned (.tuple #[])∧∃A' c',Sat W w' (mI p A' c' (bs++cu xs) bad::row 5 1 (.slice A' (bs++cu xs).length c') (bs++cu xs).length ((bs++cu xs).map ao)::L):=by
 refine enter Tryz.func377 rfl rfl rfl (.cons (i:=0) rfl (.cons (i:=1) rfl .nil)) ?_;have hn0:=ck (n:=((xs.length:Nat):Int).toNat) (by omega);refine uC 3 ?_;refine u1 0 (aI rfl) ?_;refine u1 1 (aa rfl cG) ?_;refine u1 0 (au rfl bz) ?_;refine uF gF rfl (bO _ _ _ p _ _ _ bad _ hS (by omega) (by omega)) ?_;clear hS;rintro e w ⟨rfl,A13,c13,hS⟩;rw[mZ (by omega)]at hS;simp only[Bool.not_true,Bool.or_false]at hS;refine⟨_,rfl,?_⟩;refine uO 11 ?_;refine u1 4 (au rfl bz) ?_;intro a hA
 refine wp_loop_ghost (fun (mm:Nat) a w=>∃(i:Nat) (out:List UInt8) (Ao:Option Addr) (co:Nat),Ag a 64 [(0,.pointer (some ⟨p,0,none⟩)),(4,.int .i64 ((aZ (ahead none xs i)))),(5,.int .i64 ((n5 (ahead none xs i)))),(14,.slice B (xs).length d),(15,.int .i64 ((xs.length:Nat):Int)),(16,.int .i64 ((i:Nat):Int))]∧Sat W w (mI p Ao co (out) bad::row 5 1 (.slice Ao (out).length co) (out).length ((out).map ao)::L)∧(i≤xs.length)∧(out=bs++(aY xs.length++seqB kG none (xs.take i)))∧(out.length≤bs.length+9+60 * i)∧mm=xs.length-i) xs.length ?_ ?_
 ·replace hA:=hA.kp [0,4,5,14,15,16] rfl;exact⟨0,_,_,_,hA,hS,(by omega),(by rw[Int.toNat_natCast];simp[seqB]),(by simp only[List.length_append];omega),by omega⟩
 intro m a w hI;clear hS hA;obtain⟨i,out,Ao,co,hA,hS,hi,ho,hol,rfl⟩:=hI;refine rC 2 hA ?_;clear hA a;refine ba 0 0 (aA rfl rfl) ?_ ?_
 ·intro h17;refine uO 10 ?_;obtain⟨B_p,rfl⟩:∃q,B=some q:=(hX.sat hS).aw (by omega);obtain⟨x,hx⟩:∃zz_,xs[i]?=some zz_:=⟨_,List.getElem?_eq_getElem (by omega)⟩;have hw:=wQ hk hx;intro a hA;unfold lU at hw;obtain⟨hw0,hw1,hw2,hw3,hw4,hw5,hw6,hw7,hw8⟩:=hw;have hp0:=tK hk i;obtain⟨hq0,hq1⟩:=x5 hk i x.rep;obtain⟨hq2,hq3⟩:=xF hk i;have hn1:=ck (n:=(x.rep-aZ (ahead none xs i)).toNat) (by omega);have hn3:=ck (n:=x.cg.data.toList.length) (by omega);have hn4:=ck (n:=(x.pF-1).toNat) (by omega);refine o1 0 hA (an (hA.ev rfl) (hA.ev rfl) bz fg (by omega) (by omega)) ?_;clear hA a;refine u1 0 (ag (cs:=mH x) rfl lX fg (fun j u e=>bS (hX.sat hS) (j1 hx j u e))) ?_;refine uN xx hS ?_;clear hS;intro b7 w hS;refine uW (vs:=[_,_,_,_]) (cs':=[_,_,_,_]) rfl rfl fg hS ?_;clear hS;intro w hS
  refine uO 5 ?_;refine u1 0 (aa rfl c5) ?_;refine u1 0 (aa rfl cD) ?_;refine u1 1 (ld rfl bq) ?_;refine ba 0 0 (aD rfl rfl) ?_ ?_
  ·intro h24;have hnx0:cM (ahead none xs i) x.rep=1:=lJ h24;have hn2:=ck (n:=(x.num-1).toNat) (by omega);refine uO 8 ?_;intro a hA;refine dV (l1:=[_,_,_,_,_,_,_,_]) (l2:=[_]) rfl (by kernel_rfl) (by kernel_rfl) ?_;replace hS:=hS.drew;refine rT 1 hA ?_;clear hA a;refine dO 0 (aI rfl) ?_;refine dO 0 (aa rfl cG) ?_;refine dO 0 (aa rfl c5) ?_;refine dO 0 (aa rfl cD) ?_;refine dO 1 (ld rfl bq) ?_;refine dO 0 (bJ rfl rfl (by omega) (by omega)) ?_;intro a hA;refine wpStill_nil ?_;refine wx hA rfl gF rfl (bO _ _ _ p _ _ _ bad _ ((hS.p 2).p 2) (by omega) (by omega)) ?_;clear hA a;clear hS;rintro e w ⟨rfl,A33,c33,hS⟩;rw[mZ (by omega)]at hS;simp only[Bool.not_true,Bool.or_false]at hS;refine⟨_,rfl,?_⟩;refine uO 2 ?_;intro a hA
   replace hA:=hA.kp [0,4,5,7,14,15,16,17,18,19,20,21,22,23,24,25,26,27,28,29,30,31,32] rfl;refine rC 1 hA ?_;clear hA a;intro a hA;refine dV (l1:=[_,_,_,_,_,_,_,_]) (l2:=[_]) rfl (by kernel_rfl) (by kernel_rfl) ?_;replace hS:=hS.drew;refine rT 1 hA ?_;clear hA a;refine dO 0 (aI rfl) ?_;refine dO 0 (aa rfl cG) ?_;refine dO 0 (aa rfl c5) ?_;refine dO 0 (aa rfl cT) ?_;refine dO 1 (ld rfl bq) ?_;refine dO 0 (bJ rfl rfl (by omega) (by omega)) ?_;intro a hA;refine wpStill_nil ?_;refine wx hA rfl gF rfl (bO _ _ _ p _ _ _ bad _ hS (by (simp only[List.length_append];omega)) (by omega)) ?_;clear hA a;clear hS;rintro e w ⟨rfl,A42,c42,hS⟩;rw[mZ (by omega)]at hS;simp only[Bool.not_true,Bool.or_false]at hS;refine⟨_,rfl,?_⟩;refine uO 3 ?_;intro a hA;refine dV (l1:=[_,_,_,_,_]) (l2:=[_]) rfl (by kernel_rfl) (by kernel_rfl) ?_
   replace hS:=hS.drew;refine rT 1 hA ?_;clear hA a;refine dO 0 (aI rfl) ?_;refine dO 0 (aa rfl cG) ?_;refine dO 0 (aa rfl px) ?_;refine dO 0 (ld rfl rZ) ?_;intro a hA;refine wpStill_nil ?_;refine wx hA rfl AZ rfl (j9 _ _ _ p _ _ _ bad x.cg hS (by (simp only[List.length_append];omega)) (by rw[qb];(simp only[List.length_append];omega))) ?_;clear hA a;clear hS;rintro e w ⟨rfl,A48,c48,hS⟩;rw[CE (.inl rfl)]at hS;dsimp only at hS;refine⟨_,rfl,?_⟩;refine uO 3 ?_;intro a hA;refine dV (l1:=[_,_,_,_,_,_]) (l2:=[_]) rfl (by kernel_rfl) (by kernel_rfl) ?_;replace hS:=hS.drew;refine rT 1 hA ?_;clear hA a;refine dO 0 (aI rfl) ?_;refine dO 0 (aa rfl cG) ?_;refine dO 0 (aa rfl py) ?_;refine dO 0 (ld rfl bq) ?_;refine dO 0 (bJ rfl rfl (by omega) (by omega)) ?_;intro a hA;refine wpStill_nil ?_
   refine wx hA rfl gF rfl (bO _ _ _ p _ _ _ bad _ hS (by (simp only[List.length_append];omega)) (by omega)) ?_;clear hA a;clear hS;rintro e w ⟨rfl,A55,c55,hS⟩;rw[mZ (by omega)]at hS;simp only[Bool.not_true,Bool.or_false]at hS;refine⟨_,rfl,?_⟩;refine uO 2 ?_;intro a hA;replace hA:=hA.kp [0,4,5,7,14,15,16,17,18,19,20,21,22,23,24,25,26,27,28,29,30,31,32,34,35,36,37,38,39,40,41,43,44,45,46,47,49,50,51,52,53,54] rfl;refine cZ (fun w'=>Sat _ w' _) (by kernel_rfl) (by kernel_rfl) hS.drew ?_;refine Q1 0 hA (fun w hS=>(aa (hA.ev rfl) c5)) ?_;clear hA a;refine bC 0 (fun w hS=>(aa rfl cD)) ?_;refine bC 0 (fun w hS=>(ld rfl bq)) ?_;refine bC 0 (fun w hS=>(aa rfl c5)) ?_;refine bC 0 (fun w hS=>(aa rfl cT)) ?_;refine bC 0 (fun w hS=>(ld rfl bq)) ?_;refine bC 2 (fun w hS=>(aj rfl rfl (by omega) (by omega))) ?_
   intro a hA;refine wpQuiet_nil ?_;clear hS;intro w hS;refine rE 3 hA ?_;clear hA a;refine u1 2 (aj rfl rfl (by omega) (by omega)) ?_;intro a hA;replace hA:=hA.kp [0,4,5,14,15,16] rfl;have hnx:cM (ahead none xs i) x.rep=1:=lJ h24;rw[show x.rep=aZ (ahead none xs (i+1)) from by rw[fS hx];rfl,show x.num+1=n5 (ahead none xs (i+1)) from by rw[fS hx];rfl]at hA;refine⟨xs.length-(i+1),by omega,i+1,_,_,_,hA,(hS.p 2).drop,by omega,?_,by simp only[List.length_append];omega,rfl⟩;rw[hJ hx,ho];unfold kG;rw[hnx];simp only[List.append_assoc]
  ·intro h24;have hnx0:cM (ahead none xs i) x.rep=n5 (ahead none xs i):=jX (by omega);have hn2:=ck (n:=(x.num-n5 (ahead none xs i)).toNat) (by omega);refine uO 6 ?_;intro a hA;refine dV (l1:=[_,_,_,_,_,_,_,_]) (l2:=[_]) rfl (by kernel_rfl) (by kernel_rfl) ?_;replace hS:=hS.drew;refine rT 1 hA ?_;clear hA a;refine dO 0 (aI rfl) ?_;refine dO 0 (aa rfl cG) ?_;refine dO 0 (aa rfl c5) ?_;refine dO 0 (aa rfl cD) ?_;refine dO 1 (ld rfl bq) ?_;refine dO 0 (bJ rfl rfl (by omega) (by omega)) ?_;intro a hA;refine wpStill_nil ?_;refine wx hA rfl gF rfl (bO _ _ _ p _ _ _ bad _ ((hS.p 2).p 2) (by omega) (by omega)) ?_;clear hA a;clear hS;rintro e w ⟨rfl,A33,c33,hS⟩;rw[mZ (by omega)]at hS;simp only[Bool.not_true,Bool.or_false]at hS;refine⟨_,rfl,?_⟩;refine uO 2 ?_;intro a hA
   replace hA:=hA.kp [0,4,5,7,14,15,16,17,18,19,20,21,22,23,24,25,26,27,28,29,30,31,32] rfl;refine rC 1 hA ?_;clear hA a;intro a hA;refine dV (l1:=[_,_,_,_,_,_,_,_]) (l2:=[_]) rfl (by kernel_rfl) (by kernel_rfl) ?_;replace hS:=hS.drew;refine rT 1 hA ?_;clear hA a;refine dO 0 (aI rfl) ?_;refine dO 0 (aa rfl cG) ?_;refine dO 0 (aa rfl c5) ?_;refine dO 0 (aa rfl cT) ?_;refine dO 1 (ld rfl bq) ?_;refine dO 0 (bJ rfl rfl (by omega) (by omega)) ?_;intro a hA;refine wpStill_nil ?_;refine wx hA rfl gF rfl (bO _ _ _ p _ _ _ bad _ hS (by (simp only[List.length_append];omega)) (by omega)) ?_;clear hA a;clear hS;rintro e w ⟨rfl,A42,c42,hS⟩;rw[mZ (by omega)]at hS;simp only[Bool.not_true,Bool.or_false]at hS;refine⟨_,rfl,?_⟩;refine uO 3 ?_;intro a hA;refine dV (l1:=[_,_,_,_,_]) (l2:=[_]) rfl (by kernel_rfl) (by kernel_rfl) ?_
   replace hS:=hS.drew;refine rT 1 hA ?_;clear hA a;refine dO 0 (aI rfl) ?_;refine dO 0 (aa rfl cG) ?_;refine dO 0 (aa rfl px) ?_;refine dO 0 (ld rfl rZ) ?_;intro a hA;refine wpStill_nil ?_;refine wx hA rfl AZ rfl (j9 _ _ _ p _ _ _ bad x.cg hS (by (simp only[List.length_append];omega)) (by rw[qb];(simp only[List.length_append];omega))) ?_;clear hA a;clear hS;rintro e w ⟨rfl,A48,c48,hS⟩;rw[CE (.inl rfl)]at hS;dsimp only at hS;refine⟨_,rfl,?_⟩;refine uO 3 ?_;intro a hA;refine dV (l1:=[_,_,_,_,_,_]) (l2:=[_]) rfl (by kernel_rfl) (by kernel_rfl) ?_;replace hS:=hS.drew;refine rT 1 hA ?_;clear hA a;refine dO 0 (aI rfl) ?_;refine dO 0 (aa rfl cG) ?_;refine dO 0 (aa rfl py) ?_;refine dO 0 (ld rfl bq) ?_;refine dO 0 (bJ rfl rfl (by omega) (by omega)) ?_;intro a hA;refine wpStill_nil ?_
   refine wx hA rfl gF rfl (bO _ _ _ p _ _ _ bad _ hS (by (simp only[List.length_append];omega)) (by omega)) ?_;clear hA a;clear hS;rintro e w ⟨rfl,A55,c55,hS⟩;rw[mZ (by omega)]at hS;simp only[Bool.not_true,Bool.or_false]at hS;refine⟨_,rfl,?_⟩;refine uO 2 ?_;intro a hA;replace hA:=hA.kp [0,4,5,7,14,15,16,17,18,19,20,21,22,23,24,25,26,27,28,29,30,31,32,34,35,36,37,38,39,40,41,43,44,45,46,47,49,50,51,52,53,54] rfl;refine cZ (fun w'=>Sat _ w' _) (by kernel_rfl) (by kernel_rfl) hS.drew ?_;refine Q1 0 hA (fun w hS=>(aa (hA.ev rfl) c5)) ?_;clear hA a;refine bC 0 (fun w hS=>(aa rfl cD)) ?_;refine bC 0 (fun w hS=>(ld rfl bq)) ?_;refine bC 0 (fun w hS=>(aa rfl c5)) ?_;refine bC 0 (fun w hS=>(aa rfl cT)) ?_;refine bC 0 (fun w hS=>(ld rfl bq)) ?_;refine bC 2 (fun w hS=>(aj rfl rfl (by omega) (by omega))) ?_
   intro a hA;refine wpQuiet_nil ?_;clear hS;intro w hS;refine rE 3 hA ?_;clear hA a;refine u1 2 (aj rfl rfl (by omega) (by omega)) ?_;intro a hA;replace hA:=hA.kp [0,4,5,14,15,16] rfl;have hnx:cM (ahead none xs i) x.rep=n5 (ahead none xs i):=jX (by omega);rw[show x.rep=aZ (ahead none xs (i+1)) from by rw[fS hx];rfl,show x.num+1=n5 (ahead none xs (i+1)) from by rw[fS hx];rfl]at hA;refine⟨xs.length-(i+1),by omega,i+1,_,_,_,hA,(hS.p 2).drop,by omega,?_,by simp only[List.length_append];omega,rfl⟩;rw[hJ hx,ho];unfold kG;rw[hnx];simp only[List.append_assoc]
 ·intro h17;refine uO 8 ?_;intro a hA;refine dP (e:=.ret) ?_;refine fW hA rfl  ?_;have hie:i=xs.length:=by omega
  rw[hie,List.take_length]at ho;rw[show bs++cu xs=out from by rw[ho];rfl];exact⟨rfl,Ao,co,hS⟩
theorem vf (W w:World)(L:List As)(p:Nat)(A:Option Addr)(c:Nat)(bs:List UInt8)(bad:Bool)(B:Option Addr)(d:Nat)(rs:List RL)(hS:Sat W w (mI p A c (bs) bad::row 5 1 (.slice A (bs).length c) (bs).length ((bs).map ao)::L))(hR:gz W B d rs)(hE:∀r∈rs,r.p.ok W)(hC:∀r∈rs,r.p.d.ad.length≤1000000000)(hk:∀r∈rs.map RL.d,jJ r=true)(hrl:rs.length≤1000000000000)(hl:bs.length+(bM (rs.map RL.d)).length≤1000000000000):Calls Tryz.prog 379 #[.pointer (some ⟨p,0,none⟩),.slice B (rs).length d] w fun e w'=>e=.returned (.tuple #[])∧∃A' c',Sat W w' (mI p A' c' (bs++bM (rs.map RL.d)) bad::row 5 1 (.slice A' (bs++bM (rs.map RL.d)).length c') (bs++bM (rs.map RL.d)).length ((bs++bM (rs.map RL.d)).map ao)::L):=by
 refine enter Tryz.func379 rfl rfl rfl (.cons (i:=0) rfl (.cons (i:=1) rfl .nil)) ?_;refine uC 3 ?_;refine u1 0 (aI rfl) ?_;refine u1 1 (aa rfl cG) ?_;refine u1 0 (au rfl cW) ?_;refine uF gF rfl (bO _ _ _ p _ _ _ bad _ hS (by omega) (by omega)) ?_;clear hS;rintro e w ⟨rfl,A11,c11,hS⟩;rw[mZ (by omega)]at hS;simp only[Bool.not_true,Bool.or_false]at hS;refine⟨_,rfl,?_⟩;refine uO 5 ?_;refine u1 4 (au rfl cW) ?_;intro a hA
 refine wp_loop_ghost (fun (mm:Nat) a w=>∃(i:Nat) (out:List UInt8) (Ao:Option Addr) (co:Nat),Ag a 29 [(0,.pointer (some ⟨p,0,none⟩)),(12,.slice B (rs).length d),(13,.int .i64 ((rs.length:Nat):Int)),(14,.int .i64 ((i:Nat):Int))]∧Sat W w (mI p Ao co (out) bad::row 5 1 (.slice Ao (out).length co) (out).length ((out).map ao)::L)∧(i≤rs.length)∧(out=bs++(aY rs.length++seqB jG none ((rs.map RL.d).take i)))∧mm=rs.length-i) rs.length ?_ ?_
 ·replace hA:=hA.kp [0,12,13,14] rfl;exact⟨0,_,_,_,hA,hS,(by omega),(by rw[Int.toNat_natCast];simp[seqB]),by omega⟩
 intro m a w hI;clear hS hA;obtain⟨i,out,Ao,co,hA,hS,hi,ho,rfl⟩:=hI;refine rC 2 hA ?_;clear hA a;refine ba 0 0 (aA rfl rfl) ?_ ?_
 ·intro h15;refine uO 10 ?_;obtain⟨B_p,rfl⟩:∃q,B=some q:=(hR.sat hS).aw (by omega);obtain⟨x,hx⟩:∃zz_,rs[i]?=some zz_:=⟨_,List.getElem?_eq_getElem (by omega)⟩;have hw:=oF (hk x.d (List.mem_of_getElem? (dF hx)));obtain⟨hw0,hw1⟩:=hw;have hw2:x.cg.data.toList.length≤24:=hw0;have hxo:=hE x (List.mem_of_getElem? hx);have hxc:=hC x (List.mem_of_getElem? hx);have hsm:=w8 (g:=jG) (rs.map RL.d) none (i+1);intro a hA;rw[hJ (dF hx),List.length_append]at hsm;have hrg:(jG (ahead none (rs.map RL.d) i) x.d).length=(aY x.cg.data.toList.length).length+(x.cg.data.toList.length+(cE x.p.d).length):=by unfold jG;simp only[List.length_append];rfl
  have hol:out.length=bs.length+((aY rs.length).length+(seqB jG none ((rs.map RL.d).take i)).length):=by rw[ho];simp only[List.length_append]
  have hlr:(bM (rs.map RL.d)).length=(aY rs.length).length+(seqB jG none (rs.map RL.d)).length:=by unfold bM;rw[List.length_append,List.length_map]
  refine o1 0 hA (an (hA.ev rfl) (hA.ev rfl) cW bU (by omega) (by omega)) ?_;clear hA a;refine u1 0 (ag (cs:=j8 x) rfl iB bU (fun j u e=>bS (hR.sat hS) (dy hx j u e))) ?_;refine uN nH hS ?_;clear hS;intro b5 w hS;refine uW (vs:=[_,_,_]) (cs':=[_,_,_]) rfl rfl bU hS ?_;clear hS;intro w hS;refine uO 3 ?_;intro a hA;refine dV (l1:=[_,_,_,_,_]) (l2:=[_]) rfl (by kernel_rfl) (by kernel_rfl) ?_;replace hS:=hS.drew;refine rT 1 hA ?_;clear hA a;refine dO 0 (aI rfl) ?_;refine dO 0 (aa rfl cG) ?_;refine dO 0 (aa rfl dk) ?_;refine dO 0 (ld rfl rZ) ?_;intro a hA;refine wpStill_nil ?_;refine wx hA rfl AZ rfl (j9 _ _ _ p _ _ _ bad x.cg ((hS.p 2).p 2) (by omega) (by rw[qb];omega)) ?_;clear hA a;clear hS;rintro e w ⟨rfl,A23,c23,hS⟩;rw[CE (.inl rfl)]at hS;dsimp only at hS;refine⟨_,rfl,?_⟩
  refine uO 2 ?_;intro a hA;replace hA:=hA.kp [0,5,12,13,14,15,16,17,18,19,20,21,22] rfl;refine rC 2 hA ?_;clear hA a;refine u1 0 (aa rfl cd) ?_;refine u1 0 (ag (cs:=[_,_]) rfl bj aC (by exact (hS.p 2).ab (xs:=[_,_]) rfl)) ?_;refine uF Cd rfl (o5 _ _ _ p _ _ _ bad x.p hS hxo hw1.tozf hxc (by simp only[List.length_append];omega)) ?_;clear hS;rintro e w ⟨rfl,A27,c27,hS⟩;refine⟨_,rfl,?_⟩;refine uO 4 ?_;refine u1 2 (aj rfl rfl (by omega) (by omega)) ?_;intro a hA;replace hA:=hA.kp [0,12,13,14] rfl;refine⟨rs.length-(i+1),by omega,i+1,_,_,_,hA,(hS.p 2).drop,by omega,?_,rfl⟩;rw[hJ (dF hx),ho];unfold jG;simp only[List.append_assoc]
  rfl
 ·intro h15;refine uO 8 ?_;intro a hA;refine dP (e:=.ret) ?_;refine fW hA rfl  ?_;have hie:i=rs.length:=by omega
  rw[hie,List.take_of_length_le (by simp)]at ho;rw[show bs++bM (rs.map RL.d)=out from by rw[ho];unfold bM;rw[List.length_map]];exact⟨rfl,Ao,co,hS⟩
end Go.Proofs.YtkjabaihpkbfhaaGreat.Wk
namespace Go.Proofs.YtkjabaihpkbfhaaGreat.Wk
open Go Go.RowKit Go.Proofs.YtkjabaihpkbfhaaGreat Go.Proofs.YtkjabaihpkbfhaaGreat.K
theorem uA {α:Type}{g:Option α→α→List UInt8}{F:Option α→α→Prop}{k:Nat}(h:∀p x,F p x→(g p x).length≤k):∀(l:List α) (p:Option α),gv F p l→(seqB g p l).length≤l.length * k
 | [],_,_=>by simp[seqB]
 | x :: l, p, hc => by
   have h1:=h p x hc.1;have h2:=uA h l (some x) hc.2;rw[seqB,List.length_append,List.length_cons,Nat.add_mul];omega
theorem nine {n:Nat}(h:n≤9223372036854775807):(aY n).length≤9:=ck h
theorem lM {p:aB}(h:zf p)(hc:p.ad.length≤1000000000):(cE p).length≤200+27 * p.ad.length:=by
 unfold cE;have hv:=h.len;have h1:=nine (n:=p.vec.length) (by omega);have h2:=nine (n:=p.ad.length) (by omega)
 have h3:(seqB (jy 1000000000).g none p.vec).length≤p.vec.length * 9:=by
  refine uA (F:=(jy 1000000000).F) (fun _ x hx=>?_) _ _ (kD.2 fun v hv2=>?_)
  ·
   exact nine (by have:=hx.1;have:=hx.2.2;omega)
  ·
   have:=h.vec v hv2;omega
 have h4:(seqB (jL p.vec) none p.ad).length≤p.ad.length * 27:=by
  have hcl:gv (fun a b=>fj p.vec a b=true) none p.ad:=np.1 h.ad
  have hb:∀(l:List aF) (q:Option aF),gv (fun a b=>fj p.vec a b=true) q l→(∀y,q=some y→0≤y.rep∧0≤y.hi)→(seqB (jL p.vec) q l).length≤l.length * 27:=by
   intro l
   induction l with
   | nil=>intro q _ _;simp[seqB]
   | cons x l ih =>
     intro q hq hy;obtain⟨a,b,c,d,e,f⟩:=xe hq.1;have hp:0≤cj q:=by unfold cj;cases q with | none=>simp | some y=>exact (hy y rfl).1
     have hl:0≤a7 p.vec q x.rep:=by
      unfold a7;have:=cP h.vec x.rep.toNat;cases q with
      | none=>simp only;omega
      | some y=>have:=(hy y rfl).2;simp only;split<;>omega
     have h5:=ih (some x) hq.2 (fun y hy2=>by cases hy2;exact⟨a,by omega⟩);have n1:=nine (n:=(x.rep-cj q).toNat) (by omega);have n2:=nine (n:=(x.lo-a7 p.vec q x.rep).toNat) (by omega);have n3:=nine (n:=(x.hi-x.lo).toNat) (by omega);have hg:(jL p.vec q x).length≤27:=by unfold jL;simp only[List.length_append];omega
     rw[seqB,List.length_append,List.length_cons,Nat.add_mul];omega
  exact hb _ none hcl (fun y hy=>by cases hy)
 simp only[List.length_append];omega
theorem mC {xs:List aM}(h:gv lU none xs)(hl:xs.length≤1000000000):(cu xs).length≤9+60 * xs.length:=by
 unfold cu;have h1:=nine (n:=xs.length) (by omega)
 have h2:(seqB kG none xs).length≤xs.length * 60:=by
  have hb:∀(l:List aM) (q:Option aM),gv lU q l→(∀y,q=some y→0≤y.rep∧0≤y.num)→(seqB kG q l).length≤l.length * 60:=by
   intro l
   induction l with
   | nil=>intro q _ _;simp[seqB]
   | cons x l ih =>
     intro q hq hy;obtain⟨a,b,c,d,e,f,g,i,j⟩:=hq.1;have hp:0≤aZ q:=by unfold aZ;cases q with | none=>simp | some y=>exact (hy y rfl).1
     have hn:0≤cM q x.rep:=by
      unfold cM;cases q with
      | none=>simp
      | some y=>have:=(hy y rfl).2;simp only;split<;>omega
     have h5:=ih (some x) hq.2 (fun y hy2=>by cases hy2;exact⟨a,by omega⟩);have n1:=nine (n:=(x.rep-aZ q).toNat) (by omega);have n2:=nine (n:=(x.num-cM q x.rep).toNat) (by omega);have n3:=nine (n:=x.cg.data.toList.length) (by omega);have n4:=nine (n:=(x.pF-1).toNat) (by omega);have hg:(kG q x).length≤60:=by unfold kG;simp only[List.length_append];omega
     rw[seqB,List.length_append,List.length_cons,Nat.add_mul];omega
  exact hb _ none h (fun y hy=>by cases hy)
 rw[List.length_append];omega
theorem mL {rs:List br}(h:∀r∈rs,jJ r=true)(hs:cm (rs.map br.a8)≤1000000000):(bM rs).length≤9+300 * cm (rs.map br.a8):=by
 have hl:=nQ (rs.map br.a8);rw[List.length_map]at hl;unfold bM;have h1:=nine (n:=rs.length) (by omega)
 have h2:∀(l:List br) (q:Option br),(∀r∈l,jJ r=true∧r.a8.ad.length≤1000000000)→(seqB jG q l).length≤300 * cm (l.map br.a8):=by
  intro l
  induction l with
  | nil=>intro q _;simp[seqB]
  | cons x l ih =>
    intro q hq;obtain⟨hw0,hw1⟩:=oF (hq x (by simp)).1;have h3:=lM hw1.tozf (hq x (by simp)).2;have h4:=ih (some x) (fun r hr=>hq r (by simp[hr]));have h5:=nine (n:=x.cg.data.toList.length) (by omega);have h6:cm ((x::l).map br.a8)=x.a8.ad.length+1+cm (l.map br.a8):=by unfold cm;simp
    have hg:(jG q x).length≤33+(cE x.a8).length:=by unfold jG;simp only[List.length_append];omega
    rw[seqB,List.length_append,h6];omega
 have h3:=h2 rs none (fun r hr=>⟨h r hr,by have:=pM (List.mem_map.2 ⟨r,hr,rfl⟩:r.a8∈rs.map br.a8);omega⟩);rw[List.length_append];omega
theorem jH (rs:List RL):(rs.map RL.d).map br.a8=rs.map fun r=>r.p.d:=by rw[List.map_map];rfl
end Go.Proofs.YtkjabaihpkbfhaaGreat.Wk
namespace Go.Proofs.YtkjabaihpkbfhaaGreat.Wk
open Go Go.RowKit Go.Proofs.YtkjabaihpkbfhaaGreat Go.Proofs.YtkjabaihpkbfhaaGreat.K Go.Proofs.YtkjabaihpkbfhaaGreat.T
theorem rL (W:World)(q:PL)(hp:q.ok W)(hv:q.d.vec.length≤1000000000000)(hcl:q.d.ad.length≤1000000000)(hN:bK q.d=true):Calls Tryz.prog 362 #[.agg #[.slice q.va q.d.vec.length q.vc,.slice q.ca q.d.ad.length q.cc]] W fun e w'=>∃A' c',e=.returned (.tuple #[.slice A' (cE q.d).length c',.int .i64 0])∧Sat W w' [row 5 1 (.slice A' (cE q.d).length c') (cE q.d).length ((cE q.d).map ao)]:=by
 refine enter Tryz.func362 rfl rfl rfl (.cons (i:=0) rfl .nil) ?_;have hS:=Sat.start W;have hk:=(gu.1 hN).tozf;have hbm:=lM hk hcl;refine uC 2 ?_;refine uB rfl hS ?_;clear hS;intro b1 w hS;refine uO 7 ?_;refine u1 0 (ag (cs:=[_,_]) rfl bj aC (by exact hS.ab (xs:=[_,_]) rfl)) ?_;refine uF re rfl (dJ _ q (hp.sat hS) (by omega) hv) ?_;rintro e w ⟨rfl,hT⟩;rw[hN];replace hS:Sat _ _ _:=hS.ah hT;clear hT;refine⟨_,rfl,?_⟩;refine u1 7 (aR rfl) ?_;refine uF y2 rfl (di _) ?_;rintro e w ⟨p0,rfl,hT⟩;replace hS:=hS.ay hT;clear hT;change Sat W w (aS p0 (.cells #[.slice none 0 0,.bool false] 263)::_) at hS;refine⟨_,rfl,?_⟩;refine u1 0 (aI rfl) ?_;refine u1 0 (ag (cs:=[_,_]) rfl AD zW (by exact hS.ab (xs:=[_,_]) rfl)) ?_;intro a hA;refine o1 0 hA (ax hA rfl sX) ?_;clear hA a
 refine uN AB hS ?_;clear hS;intro b4 w hS;refine uW (vs:=[_,_]) (cs':=[_,_]) rfl rfl AE hS ?_;clear hS;intro w hS;refine uO 4 ?_;refine u1 0 (ag (cs:=[_,_]) rfl bj aC (by exact (hS.p 2).ab (xs:=[_,_]) rfl)) ?_;refine uF Cd rfl (o5 _ _ _ b4 none 0 [] false q ((hS.bp 5 1).p 1) hp hk hcl (by simp)) ?_;clear hS;rintro e w ⟨rfl,A13,c13,hS⟩;refine⟨_,rfl,?_⟩;refine uO 4 ?_;refine u1 0 (aa rfl cG) ?_;refine uF yg rfl (j7 _ _ _ b4 A13 c13 _ false hS (hS.p 1).rd (by simp only[List.nil_append];omega)) ?_;rintro e w ⟨A15,c15,rfl,hT⟩;replace hS:=hS.ay hT;clear hT;simp only[Bool.false_eq_true,if_false,List.nil_append]at hS ⊢;refine⟨_,rfl,?_⟩;refine u1 0 (ak rfl rfl) ?_;refine u1 5 (ak rfl rfl) ?_;refine gT ?_;exact⟨_,_,rfl,jv hS⟩
theorem ow (W:World)(B:Option Addr)(d:Nat)(xs:List aM)(hX:iz W B d xs)(hxl:xs.length≤1000000000)(hN:cO xs=true):Calls Tryz.prog 361 #[.slice B (xs).length d] W fun e w'=>∃A' c',e=.returned (.tuple #[.slice A' (cu xs).length c',.int .i64 0])∧Sat W w' [row 5 1 (.slice A' (cu xs).length c') (cu xs).length ((cu xs).map ao)]:=by
 refine enter Tryz.func361 rfl rfl rfl (.cons (i:=0) rfl .nil) ?_;have hS:=Sat.start W;have hk:=lR hN;have hbm:=mC hk hxl;refine uC 10 ?_;refine uF sl rfl (eJ _ B d xs (hX.sat hS) (by omega)) ?_;rintro e w ⟨rfl,hT⟩;rw[if_pos hN];replace hS:Sat _ _ _:=hS.ah hT;clear hT;refine⟨_,rfl,?_⟩;refine u1 7 (cV (aD rfl rfl) (by omega)) ?_;refine uF y2 rfl (di _) ?_;rintro e w ⟨p0,rfl,hT⟩;replace hS:=hS.ay hT;clear hT;change Sat W w (aS p0 (.cells #[.slice none 0 0,.bool false] 263)::_) at hS;refine⟨_,rfl,?_⟩;refine u1 0 (aI rfl) ?_;refine u1 0 (ag (cs:=[_,_]) rfl AD zW (by exact hS.ab (xs:=[_,_]) rfl)) ?_;intro a hA;refine o1 0 hA (ax hA rfl sX) ?_;clear hA a;refine uN AB hS ?_;clear hS;intro b4 w hS;refine uW (vs:=[_,_]) (cs':=[_,_]) rfl rfl AE hS ?_;clear hS;intro w hS;refine uO 5 ?_
 refine uF EP rfl (uI _ _ _ b4 none 0 [] false B d xs ((hS.bp 5 1).p 1) hX hk hxl (by simp)) ?_;clear hS;rintro e w ⟨rfl,A13,c13,hS⟩;refine⟨_,rfl,?_⟩;refine uO 4 ?_;refine u1 0 (aa rfl cG) ?_;refine uF yg rfl (j7 _ _ _ b4 A13 c13 _ false hS (hS.p 1).rd (by simp only[List.nil_append];omega)) ?_;rintro e w ⟨A15,c15,rfl,hT⟩;replace hS:=hS.ay hT;clear hT;simp only[Bool.false_eq_true,if_false,List.nil_append]at hS ⊢;refine⟨_,rfl,?_⟩;refine u1 0 (ak rfl rfl) ?_;refine u1 5 (ak rfl rfl) ?_;refine gT ?_;exact⟨_,_,rfl,jv hS⟩
theorem og (W:World)(B:Option Addr)(d:Nat)(rs:List RL)(hR:gz W B d rs)(hE:∀r∈rs,r.p.ok W)(hB:du 1000000000 rs)(hs:cm (rs.map fun r=>r.p.d)≤1000000000)(hN:df (rs.map RL.d)=true):Calls Tryz.prog 363 #[.slice B (rs).length d] W fun e w'=>∃A' c',e=.returned (.tuple #[.slice A' (bM (rs.map RL.d)).length c',.int .i64 0])∧Sat W w' [row 5 1 (.slice A' (bM (rs.map RL.d)).length c') (bM (rs.map RL.d)).length ((bM (rs.map RL.d)).map ao)]:=by
 refine enter Tryz.func363 rfl rfl rfl (.cons (i:=0) rfl .nil) ?_;have hS:=Sat.start W;have hrl:=mE hs;have hk:=fX hN;have hbm:=mL hk (by rw[jH];exact hs);intro a hA;rw[jH]at hbm;refine rC 10 hA ?_;clear hA a;refine uF qc rfl (dM _ B d rs (hR.sat hS) (fun r h=>(hE r h).sat hS) (hB.mono (by decide)) (by omega)) ?_;rintro e w ⟨rfl,hT⟩;rw[if_pos hN];replace hS:Sat _ _ _:=hS.ah hT;clear hT;refine⟨_,rfl,?_⟩;refine u1 7 (cV (aD rfl rfl) (by omega)) ?_;refine uF y2 rfl (di _) ?_;rintro e w ⟨p0,rfl,hT⟩;replace hS:=hS.ay hT;clear hT;change Sat W w (aS p0 (.cells #[.slice none 0 0,.bool false] 263)::_) at hS;refine⟨_,rfl,?_⟩;refine u1 0 (aI rfl) ?_;refine u1 0 (ag (cs:=[_,_]) rfl AD zW (by exact hS.ab (xs:=[_,_]) rfl)) ?_;intro a hA;refine o1 0 hA (ax hA rfl sX) ?_;clear hA a
 refine uN AB hS ?_;clear hS;intro b4 w hS;refine uW (vs:=[_,_]) (cs':=[_,_]) rfl rfl AE hS ?_;clear hS;intro w hS;refine uO 5 ?_;refine uF EC rfl (vf _ _ _ b4 none 0 [] false B d rs ((hS.bp 5 1).p 1) hR hE (fun r hr=>(hB r hr).2) hk (by omega) (by simp only[List.length_nil];omega)) ?_;clear hS;rintro e w ⟨rfl,A13,c13,hS⟩;refine⟨_,rfl,?_⟩;refine uO 4 ?_;refine u1 0 (aa rfl cG) ?_;refine uF yg rfl (j7 _ _ _ b4 A13 c13 _ false hS (hS.p 1).rd (by simp only[List.nil_append];omega)) ?_;rintro e w ⟨A15,c15,rfl,hT⟩;replace hS:=hS.ay hT;clear hT;simp only[Bool.false_eq_true,if_false,List.nil_append]at hS ⊢;refine⟨_,rfl,?_⟩;refine u1 0 (ak rfl rfl) ?_;refine u1 5 (ak rfl rfl) ?_;refine gT ?_;exact⟨_,_,rfl,jv hS⟩
end Go.Proofs.YtkjabaihpkbfhaaGreat.Wk
namespace Go.Proofs.YtkjabaihpkbfhaaGreat.Wk
open Go Go.RowKit Go.Proofs.YtkjabaihpkbfhaaGreat Go.Proofs.YtkjabaihpkbfhaaGreat.K
def fr (b:List UInt8):List UInt8:=aY b.length++b
def dx (k:Nat)(s:gP):List UInt8:=aY k++(fr (cu s.jd)++(fr (cE s.a8)++fr (bM s.ky)))
def fM (f:gP→Bool)(k:Nat)(s:gP):List UInt8:=if f s=true then dx k s else []
def sN (f:gP→Bool)(s:gP):Int:=if f s=true then 0 else 1
theorem ju {f:gP→Bool}{k:Nat}{s:gP}(h:f s=false):fM f k s=[]:=if_neg (by rw[h];decide)
theorem nf {f:gP→Bool}{s:gP}(h:f s=false):sN f s=1:=if_neg (by rw[h];decide)
theorem ia {f:gP→Bool}{k:Nat}{s:gP}(h:f s=true):fM f k s=dx k s:=if_pos h
theorem ly {f:gP→Bool}{s:gP}(h:f s=true):sN f s=0:=if_pos h
theorem aW {s:gP}(h:aK s=true):cO s.jd=true∧bK s.a8=true∧df s.ky=true:=by
 unfold aK at h;simpa only [Bool.and_eq_true]using h
theorem eo {s:gP}(h:bL s=true):aK s=true:=by
 unfold bL at h;rw[Bool.and_eq_true]at h;exact h.1
end Go.Proofs.YtkjabaihpkbfhaaGreat.Wk
namespace Go.Proofs.YtkjabaihpkbfhaaGreat.Wk
open Go Go.RowKit Go.Proofs.YtkjabaihpkbfhaaGreat Go.Proofs.YtkjabaihpkbfhaaGreat.K Go.Proofs.YtkjabaihpkbfhaaGreat.T
theorem ql (W:World)(k:Nat)(ea:Option Addr)(ec:Nat)(es:List aM)(p:PL)(ra:Option Addr)(rc:Nat)(rs:List RL)(hk:k≤100)(he:iz W ea ec es)(hpp:p.ok W)(hrt:gz W ra rc rs)(hre:∀r∈rs,r.p.ok W)(hel:es.length≤16777216)(hpv:p.d.vec.length≤1000000000000)(hpc:p.d.ad.length≤16777216)(hrv:∀r∈rs,r.p.d.vec.length≤1000000000000)(hrs:cm (rs.map fun r=>r.p.d)≤16777216)(hE1:cO es=true)(hE2:bK p.d=true)(hE3:df (rs.map RL.d)=true):Calls Tryz.prog 349 #[.int .i64 (k:Int),.slice ea (es).length ec,.agg #[.slice p.va p.d.vec.length p.vc,.slice p.ca p.d.ad.length p.cc],.slice ra (rs).length rc] W fun e w'=>∃A' c',e=.returned (.tuple #[.slice A' (dx k ⟨es,p.d,rs.map RL.d⟩).length c',.int .i64 0])∧Sat W w' [row 5 1 (.slice A' (dx k ⟨es,p.d,rs.map RL.d⟩).length c') (dx k ⟨es,p.d,rs.map RL.d⟩).length ((dx k ⟨es,p.d,rs.map RL.d⟩).map ao)]:=by
 refine enter Tryz.func349 rfl rfl rfl (.cons (i:=0) rfl (.cons (i:=1) rfl (.cons (i:=2) rfl (.cons (i:=3) rfl .nil)))) ?_;have hS:=Sat.start W;have hk1:=mC (lR hE1) (by omega);have hk2:=lM (gu.1 hE2).tozf (by omega);have hk3:=mL (fX hE3) (by rw[jH];omega);intro a hA;rw[jH]at hk3;have hk4:=nine (n:=(cu es).length) (by omega);have hk5:=nine (n:=(cE p.d).length) (by omega);have hk6:=nine (n:=(bM (rs.map RL.d)).length) (by omega);have hk7:=nine (n:=k) (by omega);refine rC 2 hA ?_;clear hA a;refine uB rfl hS ?_;clear hS;intro b6 w hS;refine uO 7 ?_;refine uF D0 rfl (ow _ ea ec es (he.sat hS) (by omega) hE1) ?_;rintro e w ⟨A19,c19,rfl,hT⟩;replace hS:=hS.ay hT;clear hT;refine⟨_,rfl,?_⟩
 refine uO 1 ?_;refine u1 0 (ak rfl rfl) ?_;refine u1 8 (ak rfl rfl) ?_;refine u1 7 (cV (aD rfl rfl) (by omega)) ?_;refine u1 0 (ag (cs:=[_,_]) rfl bj aC (by exact (hS.p 1).ab (xs:=[_,_]) rfl)) ?_;refine uF DX rfl (rL _ p (hpp.sat hS) hpv (by omega) hE2) ?_;rintro e w ⟨A27,c27,rfl,hT⟩;replace hS:=hS.ay hT;clear hT;refine⟨_,rfl,?_⟩;refine uO 1 ?_;refine u1 0 (ak rfl rfl) ?_;refine u1 8 (ak rfl rfl) ?_;refine u1 2 (cV (aD rfl rfl) (by omega)) ?_;intro a hA;replace hA:=hA.kp [0,3,8,9,10,11,12,31] rfl;refine rC 6 hA ?_;clear hA a;refine uF EF rfl (og _ ra rc rs (hrt.sat hS) (fun r h=>(hre r h).sat hS) ((ic hrv hrs).mono (by decide)) (by omega) hE3) ?_;rintro e w ⟨A35,c35,rfl,hT⟩;replace hS:=hS.ay hT;clear hT;refine⟨_,rfl,?_⟩
 refine uO 1 ?_;refine u1 0 (ak rfl rfl) ?_;refine u1 8 (ak rfl rfl) ?_;refine u1 7 (cV (aD rfl rfl) (by omega)) ?_;refine uF y2 rfl (di _) ?_;rintro e w ⟨p0,rfl,hT⟩;replace hS:=hS.ay hT;clear hT;refine⟨_,rfl,?_⟩;refine uO 7 ?_;refine uF gF rfl (dD _ _ _ p0 none 0 [] false k ((hS.bp 5 1).p 1) (by simp) (by omega)) ?_;clear hS;rintro e w ⟨rfl,A44,c44,hS⟩;rw[mZ (by omega),Int.toNat_natCast]at hS;simp only[Bool.not_true,Bool.or_false]at hS;refine⟨_,rfl,?_⟩;refine uO 8 ?_;intro a hA;refine yk hA rfl rfl zN F6 rfl rfl rfl (by simp[Value.oneCell']) hS ?_;clear hA a hS;intro A48 w hS;intro a hA;replace hS:=((hS.p 2).p 2);refine o1 3 hA (au (hA.ev rfl) zN) ?_;clear hA a;intro a hA;replace hA:=hA.kp [8,9,14,48,49,50] rfl;refine rC 1 hA ?_;clear hA a;intro a hA;refine wp_loop_rounds 4 ?_;refine aE ?_
 refine rC 2 hA ?_;clear hA a;refine ba 0 0 (aA rfl rfl) ?_ ?_
 ·intro h51;refine uO 10 ?_;obtain⟨A48_p,rfl⟩:∃q,A48=some q:=(hS.p 2).rd.aw (by omega);refine u1 0 (an rfl rfl zN gl (by omega) (by omega)) ?_;refine u1 6 (av rfl ed (ml (hS.p 2).rd rfl)) ?_;refine uF zt rfl (gA _ _ _ p0 _ _ _ false (str (cu es)) A19 c19 hS (by simp only[List.length_append,List.length_nil];omega) (fun w' M N s=>(s.p 5).rd) (by show _+(cu es).length≤_;simp only[List.length_append,List.length_nil];omega)) ?_;clear hS;rintro e w ⟨rfl,Af1,cf1,hS⟩;rw[CE (.inr rfl)]at hS;dsimp only[kC]at hS;refine⟨_,rfl,?_⟩;refine uO 4 ?_;refine u1 2 (aH (aj rfl rfl (by omega) (by omega)) (show _=Value.int .i64 1 from rfl)) ?_;intro a hA;refine aE ?_;refine rC 2 hA ?_;clear hA a;refine ba 0 0 (aA rfl rfl) ?_ ?_
  ·intro h51;refine uO 10 ?_;refine u1 0 (an rfl rfl zN gl (by omega) (by omega)) ?_;refine u1 6 (av rfl ed (ml (hS.p 2).rd rfl)) ?_;refine uF zt rfl (gA _ _ _ p0 _ _ _ false (str (cE p.d)) A27 c27 hS (by simp only[List.length_append,List.length_nil];omega) (fun w' M N s=>(s.p 4).rd) (by show _+(cE p.d).length≤_;simp only[List.length_append,List.length_nil];omega)) ?_;clear hS;rintro e w ⟨rfl,Af2,cf2,hS⟩;rw[CE (.inr rfl)]at hS;dsimp only[kC]at hS;refine⟨_,rfl,?_⟩;refine uO 3 ?_;intro a hA;replace hA:=hA.kp [8,9,14,16,48,49,50,51,52,53,54,55,57] rfl;refine rC 1 hA ?_;clear hA a;refine u1 2 (aH (aj rfl rfl (by omega) (by omega)) (show _=Value.int .i64 2 from rfl)) ?_;intro a hA;refine aE ?_;refine rC 2 hA ?_;clear hA a;refine ba 0 0 (aA rfl rfl) ?_ ?_
   ·intro h51;refine uO 10 ?_;refine u1 0 (an rfl rfl zN gl (by omega) (by omega)) ?_;refine u1 6 (av rfl ed (ml (hS.p 2).rd rfl)) ?_;refine uF zt rfl (gA _ _ _ p0 _ _ _ false (str (bM (rs.map RL.d))) A35 c35 hS (by simp only[List.length_append,List.length_nil];omega) (fun w' M N s=>(s.p 3).rd) (by show _+(bM (rs.map RL.d)).length≤_;simp only[List.length_append,List.length_nil];omega)) ?_;clear hS;rintro e w ⟨rfl,Af3,cf3,hS⟩;rw[CE (.inr rfl)]at hS;dsimp only[kC]at hS;refine⟨_,rfl,?_⟩;refine uO 4 ?_;refine u1 2 (aH (aj rfl rfl (by omega) (by omega)) (show _=Value.int .i64 3 from rfl)) ?_;intro a hA;refine aE ?_;refine rC 2 hA ?_;clear hA a;refine ba 0 0 (aA rfl rfl) ?_ ?_
    ·intro h51;intro a hA
     try (contradiction)
     all_goals
      fail "unrolled enough"
    ·intro h51;refine uO 9 ?_;intro a hA;replace hA:=hA.kp [8,9,14] rfl;refine rC 3 hA ?_;clear hA a;refine uF yg rfl (mz _ _ _ p0 Af3 cf3 _ false hS (hS.p 1).rd (by simp only[List.length_append,List.length_nil];omega)) ?_;rintro e w ⟨A59,c59,rfl,hT⟩;replace hS:=hS.ay hT;clear hT;simp only[Bool.false_eq_true,if_false,List.nil_append]at hS ⊢;refine⟨_,rfl,?_⟩;refine u1 0 (ak rfl rfl) ?_;refine u1 5 (ak rfl rfl) ?_;refine gT ?_;have ho:aY k++(aY (cu es).length++cu es)++(aY (cE p.d).length++cE p.d)++(aY (bM (rs.map RL.d)).length++bM (rs.map RL.d))=dx k ⟨es,p.d,rs.map RL.d⟩:=by unfold dx fr;simp only[List.append_assoc]
     rw[ho]at hS ⊢;exact⟨_,_,rfl,jv hS⟩
   ·intro h51;intro a hA;contradiction
  ·intro h51;intro a hA;contradiction
 ·intro h51;intro a hA;contradiction
theorem qk (W:World)(s:SL)(hp:s.ok W)(hs:kK s):Calls Tryz.prog 428 #[.agg #[.slice s.e.a s.e.es.length s.e.c,.slice s.p.va s.p.d.vec.length s.p.vc,.slice s.p.ca s.p.d.ad.length s.p.cc,.slice s.r.a s.r.rs.length s.r.c]] W fun e w'=>∃A' c',e=.returned (.tuple #[.slice A' (fM aK 1 s.d).length c',.int .i64 (sN aK s.d)])∧Sat W w' [row 5 1 (.slice A' (fM aK 1 s.d).length c') (fM aK 1 s.d).length ((fM aK 1 s.d).map ao)]:=by
 refine enter Tryz.func428 rfl rfl rfl (.cons (i:=0) rfl .nil) ?_;have hS:=Sat.start W;obtain⟨⟨ea,ec,es⟩,p,⟨ra,rc,rs⟩⟩:=s;have he:iz W ea ec es:=hp.e;have hpp:p.ok W:=hp.p;have hrt:gz W ra rc rs:=hp.r.top;have hre:∀r∈rs,r.p.ok W:=hp.r.each;have hel:es.length≤16777216:=hs.es;have hpv:p.d.vec.length≤1000000000000:=hs.pv;have hpc:p.d.ad.length≤16777216:=hs.pc;have hrs:cm (rs.map fun r=>r.p.d)≤16777216:=hs.rs;have hrb:du 10000000000 rs:=(ic hs.rv hrs).mono (by decide);have hrl:=mE hrs;refine uC 2 ?_;refine uB rfl hS ?_;clear hS;intro b1 w hS;refine uO 7 ?_;refine u1 0 (ag (cs:=[_,_,_,_]) rfl jZ eE (by exact hS.ab (xs:=[_,_,_,_]) rfl)) ?_;refine uF Ct rfl (nL _ ⟨⟨ea,ec,es⟩,p,⟨ra,rc,rs⟩⟩ (hp.sat hS) hs) ?_;rintro e w ⟨rfl,hT⟩;replace hS:Sat _ _ _:=hS.ah hT;clear hT;cases h5:aK (SL.d ⟨⟨ea,ec,es⟩,p,⟨ra,rc,rs⟩⟩)
 ·rw[if_neg (by decide)];refine⟨_,rfl,?_⟩;refine ba 0 0 (aD rfl rfl) ?_ ?_
  ·intro h6;refine uO 11 ?_;refine gT ?_;rw[ju h5,nf h5];exact⟨none,0,rfl,jv (hS.bp 5 1)⟩
  ·intro h6;intro a hA;contradiction
 ·rw[if_pos rfl];refine⟨_,rfl,?_⟩;refine ba 0 0 (aD rfl rfl) ?_ ?_
  ·intro h6;intro a hA;contradiction
  ·intro h6;refine uO 7 ?_;refine u1 0 (aa rfl s4) ?_;refine u1 0 (ld rfl nb) ?_;refine u1 0 (aa rfl tH) ?_;refine u1 0 (ag (cs:=[_,_]) rfl bj aC (by exact hS.ab (xs:=[_,_]) rfl)) ?_;refine u1 0 (aa rfl tJ) ?_;refine u1 0 (ld rfl nU) ?_;refine uF Ci rfl (ql _ 1 ea ec es p ra rc rs (by decide) (he.sat hS) (hpp.sat hS) (hrt.sat hS) (fun r h=>(hre r h).sat hS) hel hpv hpc hs.rv hrs (aW h5).1 (aW h5).2.1 (aW h5).2.2) ?_;rintro e w ⟨A13,c13,rfl,hT⟩;replace hS:=hS.ay hT;clear hT;refine⟨_,rfl,?_⟩;refine u1 0 (ak rfl rfl) ?_;refine u1 5 (ak rfl rfl) ?_;refine gT ?_;rw[ia h5,ly h5];exact⟨A13,c13,rfl,jv hS⟩
theorem rV (W:World)(s:SL)(hp:s.ok W)(hs:kK s):Calls Tryz.prog 337 #[.agg #[.slice s.e.a s.e.es.length s.e.c,.slice s.p.va s.p.d.vec.length s.p.vc,.slice s.p.ca s.p.d.ad.length s.p.cc,.slice s.r.a s.r.rs.length s.r.c]] W fun e w'=>∃A' c',e=.returned (.tuple #[.slice A' (fM bL 2 s.d).length c',.int .i64 (sN bL s.d)])∧Sat W w' [row 5 1 (.slice A' (fM bL 2 s.d).length c') (fM bL 2 s.d).length ((fM bL 2 s.d).map ao)]:=by
 refine enter Tryz.func337 rfl rfl rfl (.cons (i:=0) rfl .nil) ?_;have hS:=Sat.start W;obtain⟨⟨ea,ec,es⟩,p,⟨ra,rc,rs⟩⟩:=s;have he:iz W ea ec es:=hp.e;have hpp:p.ok W:=hp.p;have hrt:gz W ra rc rs:=hp.r.top;have hre:∀r∈rs,r.p.ok W:=hp.r.each;have hel:es.length≤16777216:=hs.es;have hpv:p.d.vec.length≤1000000000000:=hs.pv;have hpc:p.d.ad.length≤16777216:=hs.pc;have hrs:cm (rs.map fun r=>r.p.d)≤16777216:=hs.rs;have hrb:du 10000000000 rs:=(ic hs.rv hrs).mono (by decide);have hrl:=mE hrs;refine uC 2 ?_;refine uB rfl hS ?_;clear hS;intro b1 w hS;refine uO 7 ?_;refine u1 0 (ag (cs:=[_,_,_,_]) rfl lb fA (by exact hS.ab (xs:=[_,_,_,_]) rfl)) ?_;refine uF B9 rfl (nk _ ⟨⟨ea,ec,es⟩,p,⟨ra,rc,rs⟩⟩ (hp.sat hS) hs) ?_;rintro e w ⟨rfl,hT⟩;replace hS:Sat _ _ _:=hS.ah hT;clear hT;cases h5:bL (SL.d ⟨⟨ea,ec,es⟩,p,⟨ra,rc,rs⟩⟩)
 ·rw[if_neg (by decide)];refine⟨_,rfl,?_⟩;refine ba 0 0 (aD rfl rfl) ?_ ?_
  ·intro h6;refine uO 11 ?_;refine gT ?_;rw[ju h5,nf h5];exact⟨none,0,rfl,jv (hS.bp 5 1)⟩
  ·intro h6;intro a hA;contradiction
 ·rw[if_pos rfl];have hFf:=eo h5;refine⟨_,rfl,?_⟩;refine ba 0 0 (aD rfl rfl) ?_ ?_
  ·intro h6;intro a hA;contradiction
  ·intro h6;refine uO 7 ?_;refine u1 0 (aa rfl mx) ?_;refine u1 0 (ld rfl nb) ?_;refine u1 0 (aa rfl oH) ?_;refine u1 0 (ag (cs:=[_,_]) rfl bj aC (by exact hS.ab (xs:=[_,_]) rfl)) ?_;refine u1 0 (aa rfl mG) ?_;refine u1 0 (ld rfl nU) ?_;refine uF Ci rfl (ql _ 2 ea ec es p ra rc rs (by decide) (he.sat hS) (hpp.sat hS) (hrt.sat hS) (fun r h=>(hre r h).sat hS) hel hpv hpc hs.rv hrs (aW hFf).1 (aW hFf).2.1 (aW hFf).2.2) ?_;rintro e w ⟨A13,c13,rfl,hT⟩;replace hS:=hS.ay hT;clear hT;refine⟨_,rfl,?_⟩;refine u1 0 (ak rfl rfl) ?_;refine u1 5 (ak rfl rfl) ?_;refine gT ?_;rw[ia h5,ly h5];exact⟨A13,c13,rfl,jv hS⟩
theorem ux (W:World)(s:SL)(hp:s.ok W)(hs:kK s):Calls Tryz.prog 423 #[.agg #[],.agg #[.slice s.e.a s.e.es.length s.e.c,.slice s.p.va s.p.d.vec.length s.p.vc,.slice s.p.ca s.p.d.ad.length s.p.cc,.slice s.r.a s.r.rs.length s.r.c]] W fun e w'=>∃A' c',e=.returned (.tuple #[.slice A' (fM aK 1 s.d).length c',.int .i64 (sN aK s.d)])∧Sat W w' [row 5 1 (.slice A' (fM aK 1 s.d).length c') (fM aK 1 s.d).length ((fM aK 1 s.d).map ao)]:=by
 refine enter Tryz.func423 rfl rfl rfl (.cons (i:=0) rfl (.cons (i:=1) rfl .nil)) ?_;have hS:=Sat.start W;refine uC 2 ?_;refine uB rfl hS ?_;clear hS;intro b2 w hS;refine uB rfl hS ?_;clear hS;intro b3 w hS;refine uO 6 ?_;refine u1 0 (ag (cs:=[_,_,_,_]) rfl jZ eE (by exact hS.ab (xs:=[_,_,_,_]) rfl)) ?_;refine uF ED rfl (qk _ s (hp.sat hS) hs) ?_;rintro e w ⟨A7,c7,rfl,hT⟩;replace hS:=hS.ay hT;clear hT;refine⟨_,rfl,?_⟩;refine u1 0 (ak rfl rfl) ?_;refine u1 5 (ak rfl rfl) ?_;refine gT ?_;exact⟨A7,c7,rfl,jv hS⟩
theorem u3 (W:World)(s:SL)(hp:s.ok W)(hs:kK s):Calls Tryz.prog 331 #[.agg #[],.agg #[.slice s.e.a s.e.es.length s.e.c,.slice s.p.va s.p.d.vec.length s.p.vc,.slice s.p.ca s.p.d.ad.length s.p.cc,.slice s.r.a s.r.rs.length s.r.c]] W fun e w'=>∃A' c',e=.returned (.tuple #[.slice A' (fM bL 2 s.d).length c',.int .i64 (sN bL s.d)])∧Sat W w' [row 5 1 (.slice A' (fM bL 2 s.d).length c') (fM bL 2 s.d).length ((fM bL 2 s.d).map ao)]:=by
 refine enter Tryz.func331 rfl rfl rfl (.cons (i:=0) rfl (.cons (i:=1) rfl .nil)) ?_;have hS:=Sat.start W;refine uC 2 ?_;refine uB rfl hS ?_;clear hS;intro b2 w hS;refine uB rfl hS ?_;clear hS;intro b3 w hS;refine uO 6 ?_;refine u1 0 (ag (cs:=[_,_,_,_]) rfl lb fA (by exact hS.ab (xs:=[_,_,_,_]) rfl)) ?_;refine uF Fa rfl (rV _ s (hp.sat hS) hs) ?_;rintro e w ⟨A7,c7,rfl,hT⟩;replace hS:=hS.ay hT;clear hT;refine⟨_,rfl,?_⟩;refine u1 0 (ak rfl rfl) ?_;refine u1 5 (ak rfl rfl) ?_;refine gT ?_;exact⟨A7,c7,rfl,jv hS⟩
end Go.Proofs.YtkjabaihpkbfhaaGreat.Wk
namespace Go.Proofs.YtkjabaihpkbfhaaGreat.Wk
open Go Go.RowKit Go.Proofs.YtkjabaihpkbfhaaGreat Go.Proofs.YtkjabaihpkbfhaaGreat.K
theorem jw {α:Type}{f:Option α→List UInt8→Option (α×List UInt8)}{n:Nat}{p:Option α}{l r:List UInt8}{x:α}{xs:List α}{R:Option (List α×List UInt8)}
 (hq:R=(dG f (n+1) p l).map fun q=>(xs++q.1,q.2)) (h:f p l=some (x,r)):R=(dG f n (some x) r).map fun q=>(xs++[x]++q.1,q.2):=by
 rw[hq,oT h,Option.map_map]
 congr 1
 funext q
 simp
theorem cq {α:Type}{f:Option α→List UInt8→Option (α×List UInt8)}{n:Nat}{p:Option α}{l:List UInt8}{xs:List α}{R:Option (List α×List UInt8)}
 (hq:R=(dG f (n+1) p l).map fun q=>(xs++q.1,q.2)) (h:f p l=none):R=none:=by rw[hq,ss h];rfl
theorem nJ {α:Type}{f:Option α→List UInt8→Option (α×List UInt8)}{p:Option α}{l:List UInt8}{xs:List α}{R:Option (List α×List UInt8)}
 (hq:R=(dG f 0 p l).map fun q=>(xs++q.1,q.2)):R=some (xs,l):=by rw[hq,dG];simp
theorem j6 {α:Type}{f:Option α→List UInt8→Option (α×List UInt8)}{n:Nat}{p:Option α}{l:List UInt8}:dG f n p l=(dG f n p l).map fun q=>(([]:List α)++q.1,q.2):=by
 cases dG f n p l with
 | none=>rfl
 | some q=>rfl
theorem dQ {α:Type}(xs:List α)(x:α):(xs++[x]).getLast?=some x:=by simp
theorem bx (W w:World)(L:List As)(r:Nat)(A:Option Addr)(c:Nat)(bs:List UInt8)(at_:Nat)(mo:Int)(hS:Sat W w (eR r A c bs at_ true 0::L))(hat:at_≤bs.length)(hb:bs.length≤140737488355328)(hR:∀w,Sat W w L→Rd w 1 (.slice A bs.length c) bs.length (bs.map ao)):Calls Tryz.prog 100 #[.pointer (some ⟨r,0,none⟩),.int .i64 mo] w fun e w'=>
 (∃v at':Nat,a6 mo (bs.drop at_)=some (v,bs.drop at')∧at'≤bs.length∧(v:Int)≤mo∧v≤9223372036854775807∧e=.returned (.int .i64 (v:Int))∧Sat W w' (eR r A c bs (at':Int) true 0::L))∨(a6 mo (bs.drop at_)=none∧te (.iface 271 (.agg #[.pointer (some ⟨r,0,none⟩)])) e∧∃at' er:Int,er≠0∧Sat W w' (eR r A c bs at' true er::L)):=
 (mu W w L r A c bs at_ mo hS hat hb hR).mono fun e w' h=>by
  rcases h with ⟨h0,he,hs⟩ | ⟨h0,hp,at',hs⟩
  ·
   obtain⟨v,a,hu,h1,h2,h3,h4⟩:=F3 h0;rw[hu]at he hs;exact .inl ⟨v,a,h1,h2,h3,h4,he,hs⟩
  ·
   exact .inr ⟨rq h0,hp,at',_,by omega,hs⟩
theorem eX (W w:World)(L:List As)(r:Nat)(A:Option Addr)(c:Nat)(bs:List UInt8)(at_:Nat)(ea:Int)(hS:Sat W w (eR r A c bs at_ true 0::L))(hat:at_≤bs.length)(hb:bs.length≤140737488355328)(hR:∀w,Sat W w L→Rd w 1 (.slice A bs.length c) bs.length (bs.map ao))(h1:1≤ea)(h2:ea≤9223372036854775807):Calls Tryz.prog 102 #[.pointer (some ⟨r,0,none⟩),.int .i64 ea] w fun e w'=>
 (∃v at':Nat,a6 9223372036854775807 (bs.drop at_)=some (v,bs.drop at')∧at'≤bs.length∧v * ea.toNat≤bs.length-at'∧e=.returned (.int .i64 (v:Int))∧Sat W w' (eR r A c bs (at':Int) true 0::L))∨
 ((a6 9223372036854775807 (bs.drop at_)=none∨∃(v:Nat) (rr:List UInt8),a6 9223372036854775807 (bs.drop at_)=some (v,rr)∧rr.length<v * ea.toNat)∧te (.iface 271 (.agg #[.pointer (some ⟨r,0,none⟩)])) e∧∃at' er:Int,er≠0∧Sat W w' (eR r A c bs at' true er::L)):=
 (tj W w L r A c bs at_ ea hS hat hb hR h2).mono fun e w' h=>by
  rcases h with ⟨h0,he,hs⟩ | ⟨h0,hp,at',hs⟩
  ·
   obtain⟨v,a,hu,h3,h4,h5⟩:=GX h1 h0;rw[hu]at he hs;exact .inl ⟨v,a,h3,h4,h5,he,hs⟩
  ·
   exact .inr ⟨C2 h1 h0,hp,at',_,by omega,hs⟩
theorem jU (W w:World)(L:List As)(r:Nat)(A:Option Addr)(c:Nat)(bs:List UInt8)(at_:Nat)(mo:Int)(hS:Sat W w (eR r A c bs at_ true 0::L))(hat:at_≤bs.length)(hb:bs.length≤140737488355328)(hR:∀w,Sat W w L→Rd w 1 (.slice A bs.length c) bs.length (bs.map ao)):Calls Tryz.prog 394 #[.pointer (some ⟨r,0,none⟩),.int .i64 mo] w fun e w'=>
 (∃(s:List UInt8) (at':Nat),bX mo (bs.drop at_)=some (s,bs.drop at')∧at'≤bs.length∧e=.returned (.string (str s))∧Sat W w' (eR r A c bs (at':Int) true 0::L))∨(bX mo (bs.drop at_)=none∧te (.iface 271 (.agg #[.pointer (some ⟨r,0,none⟩)])) e∧∃at' er:Int,er≠0∧Sat W w' (eR r A c bs at' true er::L)):=
 (vh W w L r A c bs at_ mo hS hat hb hR).mono fun e w' h=>by
  rcases h with ⟨h0,he,hs⟩ | ⟨h0,hp,at',hs⟩
  ·
   obtain⟨s,a,hu,h1,h2⟩:=GH h0;rw[hu]at he hs;exact .inl ⟨s,a,h1,h2,he,hs⟩
  ·
   exact .inr ⟨sB h0,hp,at',_,by omega,hs⟩
theorem yM {most:Int}{p:Option Int}{l r:List UInt8}{v:Nat}(h:a6 most l=some (v,r)):(jy most).f p l=some ((v:Int),r):=by
 show (match a6 most l with | none=>none | some (v,r)=>some ((v:Int),r))=_;rw[h]
theorem y8 {most:Int}{p:Option Int}{l:List UInt8}(h:a6 most l=none):(jy most).f p l=none:=by
 show (match a6 most l with | none=>none | some (v,r)=>some ((v:Int),r))=_;rw[h]
theorem BI {l:List UInt8}(h:a6 16 l=none):dC l=none:=by unfold dC;rw[h]
theorem BO {l l1:List UInt8}{n:Nat}(h:a6 16 l=some (n,l1))(h2:dG (jy 1000000000).f n none l1=none):dC l=none:=by unfold dC;rw[h];simp only;rw[h2]
theorem B4 {l l1 l2:List UInt8}{n:Nat}{vec:List Int}(h:a6 16 l=some (n,l1))(h2:dG (jy 1000000000).f n none l1=some (vec,l2))(h3:a6 9223372036854775807 l2=none):dC l=none:=by unfold dC;rw[h];simp only;rw[h2];simp only;rw[h3]
theorem lN {l l1 l2 l3:List UInt8}{n k:Nat}{vec:List Int}(h:a6 16 l=some (n,l1))(h2:dG (jy 1000000000).f n none l1=some (vec,l2))(h3:a6 9223372036854775807 l2=some (k,l3))(h4:dG (eK vec) k none l3=none):dC l=none:=by unfold dC;rw[h];simp only;rw[h2];simp only;rw[h3];simp only;rw[h4]
theorem BP {l l1 l2 l3 r:List UInt8}{n k:Nat}{vec:List Int}{cl:List aF}(h:a6 16 l=some (n,l1))(h2:dG (jy 1000000000).f n none l1=some (vec,l2))(h3:a6 9223372036854775807 l2=some (k,l3))(h4:dG (eK vec) k none l3=some (cl,r)):dC l=some (⟨vec,cl⟩,r):=by unfold dC;rw[h];simp only;rw[h2];simp only;rw[h3];simp only;rw[h4]
theorem wc {vec:List Int}(hv:∀v∈vec,0≤v∧v≤1000000000){k:Nat}{l:List UInt8}(h:l.length<k * 3):dG (eK vec) k none l=none:=by
 cases e:dG (eK vec) k none l with
 | none=>rfl
 | some q =>
   obtain⟨xs,r⟩:=q;have:=AL (pD vec fun r=>(cP hv r).1) (k:=3) (p:=none) (fun q hq=>by cases hq) (fun p x=>sv vec p x) e;omega
theorem BQ {vec:List Int}{p:Option aF}{l:List UInt8}(h:a6 16 l=none):eK vec p l=none:=by unfold eK;rw[h]
theorem BS {vec:List Int}{p:Option aF}{l l1:List UInt8}{st:Nat}(h:a6 16 l=some (st,l1))(h1:16≤cj p+st):eK vec p l=none:=by unfold eK;rw[h];simp only;rw[if_pos h1]
theorem BK {vec:List Int}{p:Option aF}{l l1:List UInt8}{st:Nat}(h:a6 16 l=some (st,l1))(h2:a6 1000000000 l1=none):eK vec p l=none:=by
 unfold eK;rw[h];simp only
 split
 ·
  rfl
 ·
  rw[h2]
theorem BE {vec:List Int}{p:Option aF}{l l1 l2:List UInt8}{st sk:Nat}(h:a6 16 l=some (st,l1))(h2:a6 1000000000 l1=some (sk,l2))(h3:a6 1000000000 l2=none):eK vec p l=none:=by
 unfold eK;rw[h];simp only
 split
 ·
  rfl
 ·
  rw[h2];simp only;rw[h3]
theorem Bv {vec:List Int}{p:Option aF}{l l1 l2 l3:List UInt8}{st sk mo:Nat}(h:a6 16 l=some (st,l1))(h2:a6 1000000000 l1=some (sk,l2))(h3:a6 1000000000 l2=some (mo,l3))(h4:1000000000<a7 vec p (cj p+st)+sk+mo):eK vec p l=none:=by
 unfold eK;rw[h];simp only
 split
 ·
  rfl
 ·
  rw[h2];simp only;rw[h3];simp only;rw[if_pos h4]
theorem BH {vec:List Int}{p:Option aF}{l l1 l2 l3:List UInt8}{st sk mo:Nat}(h:a6 16 l=some (st,l1))(h1:¬16≤cj p+st)(h2:a6 1000000000 l1=some (sk,l2))(h3:a6 1000000000 l2=some (mo,l3))(h4:¬1000000000<a7 vec p (cj p+st)+sk+mo):eK vec p l=some (⟨cj p+st,a7 vec p (cj p+st)+sk,a7 vec p (cj p+st)+sk+mo⟩,l3):=by
 unfold eK;rw[h];simp only;rw[if_neg h1,h2];simp only;rw[h3];simp only;rw[if_neg h4]
theorem yD {vec:List Int}(hv:∀v∈vec,0≤v∧v≤1000000000){ys:List aF}(hy:∀s∈ys,0≤s.rep∧s.rep<16∧0≤s.hi∧s.hi≤1000000000)(rep:Int):0≤a7 vec ys.getLast? rep∧a7 vec ys.getLast? rep≤1000000002:=by
 unfold a7;have:=cP hv rep.toNat;cases e:ys.getLast? with
 | none=>simp only;omega
 | some q=>have:=hy q (List.mem_of_getLast? e);simp only;split<;>omega
theorem BN {ys:List aF}(hy:∀s∈ys,0≤s.rep∧s.rep<16∧0≤s.hi∧s.hi≤1000000000):0≤cj ys.getLast?∧cj ys.getLast? < 16:=by
 unfold cj;cases e:ys.getLast? with
 | none=>simp
 | some q=>have:=hy q (List.mem_of_getLast? e);simp only;omega
end Go.Proofs.YtkjabaihpkbfhaaGreat.Wk
namespace Go.Proofs.YtkjabaihpkbfhaaGreat.Wk
open Go Go.RowKit Go.Proofs.YtkjabaihpkbfhaaGreat Go.Proofs.YtkjabaihpkbfhaaGreat.K Go.Proofs.YtkjabaihpkbfhaaGreat.T
theorem lY (W w:World)(L:List As)(r:Nat)(A:Option Addr)(c:Nat)(bs:List UInt8)(at_:Nat)(hS:Sat W w (eR r A c bs at_ true 0::L))(hat:at_≤bs.length)(hb:bs.length≤1000000000000)(hR:∀w,Sat W w L→Rd w 1 (.slice A bs.length c) bs.length (bs.map ao)):Calls Tryz.prog 383 #[.pointer (some ⟨r,0,none⟩)] w fun e w'=>(∃(q:PL) (at':Nat),dC (bs.drop at_)=some (q.d,bs.drop at')∧at'≤bs.length∧q.d.ad.length≤bs.length∧e=.returned (.agg #[.slice q.va q.d.vec.length q.vc,.slice q.ca q.d.ad.length q.cc])∧Sat W w' (eR r A c bs (at':Int) true 0::ej 3 q.va q.vc q.d.vec::bG 219 q.ca q.cc q.d.ad::L))∨(dC (bs.drop at_)=none∧te (.iface 271 (.agg #[.pointer (some ⟨r,0,none⟩)])) e∧∃at' er:Int,er≠0∧Sat W w' (eR r A c bs at' true er::L)):=by
 refine enter Tryz.func383 rfl rfl rfl (.cons (i:=0) rfl .nil) ?_;refine uC 2 ?_;refine uN db hS ?_;clear hS;intro b2 w hS;refine uO 4 ?_;refine uN db hS ?_;clear hS;intro b3 w hS;refine uO 6 ?_;intro a hA;refine cJ hA rfl fk rfl (bx _ _ _ r A c bs at_ 16 (hS.p 2) (by omega) (by omega) (fun w s=>hR w s.drop.drop)) ?_;rintro e w (⟨v8,at8,hn8,ha8,hv8,hw8,rfl,hS'⟩ | ⟨hn8,⟨older,rfl,ho⟩,at',er,hne,hS'⟩)
 ·clear hS;have hS:=hS';clear hS';refine .inl ⟨_,rfl,?_⟩;clear hA a;refine uO 4 ?_;intro a hA;refine wp_loop_ghost (fun (mm:Nat) a w=>∃(i:Nat) (xs:List Int) (Av:Option Addr) (cv at1:Nat),Ag a 59 [(0,.pointer (some ⟨r,0,none⟩)),(2,.pointer (some ⟨b2,0,none⟩)),(3,.pointer (some ⟨b3,0,none⟩)),(8,.int .i64 ((v8:Nat):Int)),(9,.int .i64 ((i:Nat):Int))]∧Sat W w (eR r A c bs (at1:Int) true 0::aS b3 (.cells #[.slice Av xs.length cv,.slice none 0 0] 63)::ej 3 Av cv xs::aS b2 (.cells #[.slice none 0 0,.slice none 0 0] 63)::L)∧(i≤v8)∧(xs.length=i)∧(at1≤bs.length)∧(dG (jy 1000000000).f v8 none (bs.drop at8)=(dG (jy 1000000000).f (v8-i) xs.getLast? (bs.drop at1)).map fun q=>(xs++q.1,q.2))∧(∀v∈xs,0≤v∧v≤1000000000)∧mm=v8-i) v8 ?_ ?_
  ·replace hA:=hA.kp [0,2,3,8,9] rfl;exact⟨0,[],none,0,at8,hA,(((((hS.bp 3 1).p 3).p 1).p 3).p 3),(by omega),(by rfl),(by omega),(by exact j6),(by intro v hv;cases hv),by omega⟩
  intro m a w hI;clear hS hA;obtain⟨i,xs,Av,cv,at1,hA,hS,hi,hxl,hat1,hq,hx0,rfl⟩:=hI;refine rC 2 hA ?_;clear hA a;refine ba 0 0 (aA rfl rfl) ?_ ?_
  ·intro h10;refine uO 8 ?_;intro a hA;refine jP [5,7] (kx W (aS b3 (.cells #[.slice Av xs.length cv,.slice none 0 0] 63)::ej 3 Av cv xs::aS b2 (.cells #[.slice none 0 0,.slice none 0 0] 63)::L)) (by kernel_rfl) ?_;replace hS:=hS.drew;refine P1 0 [] hA rfl (fun w=>(aa (hA.ev rfl) cQ)) ?_;clear hA a;refine dH 1 [2] rfl (by exact⟨[_],hS⟩) (fun w hT=>have hS:=hT.sat;(ld rfl gS)) ?_;intro a hA;refine aG 3 (by kernel_rfl) ?_;refine Cc hA rfl rfl fk rfl (bx _ _ _ r A c bs at1 1000000000 hS (by omega) (by omega) (fun w s=>hR w s.drop.drop.drop)) ?_;rintro e w (⟨v14,at14,hn14,ha14,hv14,hw14,rfl,hS'⟩ | ⟨hn14,⟨older,rfl,ho⟩,at',er,hne,hS'⟩)
   rotate_left 1
   ·refine .inr ⟨_,rfl,?_⟩;refine rE 5 hA ?_;clear hA a;intro a hA;refine bV hA ?_;clear hS;have hS:=hS';clear hS';refine .inr ⟨BO hn8 (cq (n:=v8-(i+1)) (by rw[hq,show v8-i=(v8-(i+1))+1 from by omega]) (y8 hn14)),⟨older,rfl,ho⟩,at',er,hne,(((hS.p 1).drop.p 1).drop.p 1).drop⟩
   clear hS;have hS:=hS';clear hS';refine .inl ⟨_,rfl,?_⟩;clear hA a;intro a hA;refine⟨.inr fun _=>(by exact⟨[_],hS⟩),?_⟩;refine aG 4 (by kernel_rfl) ?_;refine eL hA rfl rfl rfl bu vK rfl rfl rfl (by simp[Value.oneCell']) hS ?_;clear hA a hS;intro A15 w hS;intro a hA;refine⟨.inr fun _=>(by exact⟨[_,_],hS⟩),?_⟩;refine aG 5 (by kernel_rfl) ?_
   first | refine eA hA rfl rfl rfl rfl bu vK rfl hS (by exact hS.rd.src bu (by simp[Value.oneCell'])) (by omega) (by omega) ?_ | refine eA hA rfl rfl rfl rfl bu vK rfl (hS.p 1) (by exact hS.rd.src bu (by simp[Value.oneCell'])) (by omega) (by omega) ?_ | refine eA hA rfl rfl rfl rfl bu vK rfl (hS.p 2) (by exact hS.rd.src bu (by simp[Value.oneCell'])) (by omega) (by omega) ?_ | refine eA hA rfl rfl rfl rfl bu vK rfl (hS.p 3) (by exact hS.rd.src bu (by simp[Value.oneCell'])) (by omega) (by omega) ?_ | refine eA hA rfl rfl rfl rfl bu vK rfl (hS.p 4) (by first | exact hS.rd.src bu (by simp[Value.oneCell']) | exact (hS.p 1).rd.src bu (by simp[Value.oneCell']) | exact (hS.p 2).rd.src bu (by simp[Value.oneCell']) | exact (hS.p 3).rd.src bu (by simp[Value.oneCell']) | exact (hS.p 4).rd.src bu (by simp[Value.oneCell']) | exact (hS.p 5).rd.src bu (by simp[Value.oneCell']) | exact (hS.p 6).rd.src bu (by simp[Value.oneCell'])) (by omega) (by omega) ?_ | refine eA hA rfl rfl rfl rfl bu vK rfl (hS.p 5) (by first | exact hS.rd.src bu (by simp[Value.oneCell']) | exact (hS.p 1).rd.src bu (by simp[Value.oneCell']) | exact (hS.p 2).rd.src bu (by simp[Value.oneCell']) | exact (hS.p 3).rd.src bu (by simp[Value.oneCell']) | exact (hS.p 4).rd.src bu (by simp[Value.oneCell']) | exact (hS.p 5).rd.src bu (by simp[Value.oneCell']) | exact (hS.p 6).rd.src bu (by simp[Value.oneCell'])) (by omega) (by omega) ?_ | refine eA hA rfl rfl rfl rfl bu vK rfl (hS.p 6) (by first | exact hS.rd.src bu (by simp[Value.oneCell']) | exact (hS.p 1).rd.src bu (by simp[Value.oneCell']) | exact (hS.p 2).rd.src bu (by simp[Value.oneCell']) | exact (hS.p 3).rd.src bu (by simp[Value.oneCell']) | exact (hS.p 4).rd.src bu (by simp[Value.oneCell']) | exact (hS.p 5).rd.src bu (by simp[Value.oneCell']) | exact (hS.p 6).rd.src bu (by simp[Value.oneCell'])) (by omega) (by omega) ?_
   clear hA a hS;intro A16 c16 w hc16 hS;intro a hA;refine⟨.inl rfl,?_⟩;refine P1 6 [] hA rfl (fun w=>(aa (hA.ev rfl) cQ)) ?_;clear hA a;intro a hA;refine aG 7 (by kernel_rfl) ?_;refine Ez (cs':=[_,_]) hA rfl rfl rfl gS FE rfl (hS.p 3) rfl rfl ?_;clear hS;intro w hS;refine⟨.inl rfl,?_⟩;refine ai (by kernel_rfl) ?_ _;refine rE 3 hA ?_;clear hA a;refine u1 2 (aj rfl rfl (by omega) (by omega)) ?_;intro a hA;replace hA:=hA.kp [0,2,3,8,9] rfl;rw[show v8-i=(v8-(i+1))+1 from (by omega)]at hq;have hq2:=jw hq (yM hn14);rw[←dQ xs (v14:Int)]at hq2;have el:xs.length+1=(xs++[(v14:Int)]).length:=by simp
   have hS2:=jK ((((hS.p 4).p 4).p 2).p 3) el (cs':=(xs++[(v14:Int)]).map (Value.int .i64)) (by simp);rw[el]at hS2;refine⟨v8-(i+1),by omega,i+1,xs++[(v14:Int)],A16,c16,at14,hA,(((((hS2.p 3).p 1).p 2).p 3).p 4).drop,by omega,by simp;omega,ha14,hq2,?_,rfl⟩;intro z hz;rcases List.mem_append.1 hz with hz | hz
   ·exact hx0 z hz
   ·simp at hz;subst hz;omega
  ·intro h10;obtain rfl:i=v8:=by omega
   intro a hA;rw[Nat.sub_self]at hq;have hvec:=nJ hq;refine rO 18 hA ?_;clear hA a;intro a hA;refine cJ hA rfl uT rfl (eX _ _ _ r A c bs at1 3 hS (by omega) (by omega) (fun w s=>hR w s.drop.drop.drop) (by decide) (by decide)) ?_;rintro e w (⟨v20,at20,hn20,ha20,hk20,rfl,hS'⟩ | ⟨hn20,⟨older,rfl,ho⟩,at',er,hne,hS'⟩)
   ·clear hS;have hS:=hS';clear hS';rw[show (3:Int).toNat=3 from rfl]at hk20;refine .inl ⟨_,rfl,?_⟩;clear hA a;refine uO 3 ?_;intro a hA;replace hA:=hA.kp [0,2,3,4,20,21] rfl;refine rC 1 hA ?_;clear hA a;intro a hA
    refine wp_loop_ghost (fun (mm:Nat) a w=>∃(j:Nat) (ys:List aF) (Ac:Option Addr) (cc at2:Nat),Ag a 59 [(0,.pointer (some ⟨r,0,none⟩)),(2,.pointer (some ⟨b2,0,none⟩)),(3,.pointer (some ⟨b3,0,none⟩)),(4,.int .i64 ((cj ys.getLast?))),(20,.int .i64 ((v20:Nat):Int)),(21,.int .i64 ((j:Nat):Int))]∧Sat W w (eR r A c bs (at2:Int) true 0::aS b3 (.cells #[.slice Av xs.length cv,.slice Ac ys.length cc] 63)::ej 3 Av cv xs::bG 219 Ac cc ys::aS b2 (.cells #[.slice none 0 0,.slice none 0 0] 63)::L)∧(j≤v20)∧(ys.length=j)∧(at2≤bs.length)∧(dG (eK xs) v20 none (bs.drop at20)=(dG (eK xs) (v20-j) ys.getLast? (bs.drop at2)).map fun q=>(ys++q.1,q.2))∧(∀s∈ys,0≤s.rep∧s.rep<16∧0≤s.hi∧s.hi≤1000000000)∧mm=v20-j) v20 ?_ ?_
    ·replace hA:=hA.kp [0,2,3,4,20,21] rfl;exact⟨0,[],none,0,at20,hA,((((((hS.bp 219 3).p 4).p 1).p 4).p 4).p 4),(by omega),(by rfl),(by omega),(by exact j6),(by intro v hv;cases hv),by omega⟩
    intro m a w hI;clear hS hA;obtain⟨j,ys,Ac,cc,at2,hA,hS,hj,hyl,hat2,hq2,hy0,rfl⟩:=hI;refine rC 2 hA ?_;clear hA a;refine ba 0 0 (aA rfl rfl) ?_ ?_
    ·intro h22;obtain⟨hp0,hp1⟩:=BN hy0;refine uO 12 ?_;intro a hA;refine cJ hA rfl fk rfl (bx _ _ _ r A c bs at2 16 hS (by omega) (by omega) (fun w s=>hR w s.drop.drop.drop.drop)) ?_;rintro e w (⟨v25,at25,hn25,ha25,hv25,hw25,rfl,hS'⟩ | ⟨hn25,⟨older,rfl,ho⟩,at',er,hne,hS'⟩)
     ·clear hS;have hS:=hS';clear hS';refine .inl ⟨_,rfl,?_⟩;clear hA a;refine u1 7 (aj rfl rfl (by omega) (by omega)) ?_;refine ba 0 0 (gQ rfl rfl) ?_ ?_
      ·intro h28;refine uO 5 ?_;intro a hA;refine cJ hA rfl iR rfl (bQ _ _ _ r A c bs at25 8 hS (by omega) (by omega) (fun w s=>hR w s.drop.drop.drop.drop)) ?_;rintro e w ⟨⟨older,rfl,ho⟩,at',hS'⟩
       ·refine .inr ⟨_,rfl,?_⟩;refine rE 6 hA ?_;clear hA a;intro a hA;refine bV hA ?_;clear hS;have hS:=hS';clear hS';refine .inr ⟨lN hn8 hvec hn20 (cq (n:=v20-(j+1)) (by rw[hq2,show v20-j=(v20-(j+1))+1 from by omega]) (BS hn25 (by omega))),⟨older,rfl,ho⟩,at',8,by decide,((((hS.p 1).drop.p 1).drop.p 1).drop.p 1).drop⟩
      ·intro h28;refine uO 7 ?_;obtain⟨hm0,hm1⟩:=yD hx0 hy0 (cj ys.getLast?+(v25:Int));refine u1 0 (aa rfl cQ) ?_;refine u1 1 (ld rfl gS) ?_;refine u1 0 (aa rfl dg) ?_;refine u1 0 (ld rfl iM) ?_;refine uF Cw rfl (oX _ Av cv xs _ Ac ys.length cc ys (hS.p 2).rd (hS.p 3).rd rfl (by omega) (by omega) hx0 (fun s hs=>by have:=hy0 s hs;omega) (by omega) (by omega)) ?_;rintro e w ⟨rfl,hT⟩;replace hS:Sat _ _ _:=hS.ah hT;clear hT;refine⟨_,rfl,?_⟩;refine uO 1 ?_;intro a hA;refine cJ hA rfl fk rfl (bx _ _ _ r A c bs at25 1000000000 hS (by omega) (by omega) (fun w s=>hR w s.drop.drop.drop.drop)) ?_;rintro e w (⟨v38,at38,hn38,ha38,hv38,hw38,rfl,hS'⟩ | ⟨hn38,⟨older,rfl,ho⟩,at',er,hne,hS'⟩)
       ·clear hS;have hS:=hS';clear hS';refine .inl ⟨_,rfl,?_⟩;clear hA a;refine u1 7 (aj rfl rfl (by omega) (by omega)) ?_;intro a hA;refine cJ hA rfl fk rfl (bx _ _ _ r A c bs at38 1000000000 hS (by omega) (by omega) (fun w s=>hR w s.drop.drop.drop.drop)) ?_;rintro e w (⟨v42,at42,hn42,ha42,hv42,hw42,rfl,hS'⟩ | ⟨hn42,⟨older,rfl,ho⟩,at',er,hne,hS'⟩)
        ·clear hS;have hS:=hS';clear hS';refine .inl ⟨_,rfl,?_⟩;clear hA a;refine u1 7 (aj rfl rfl (by omega) (by omega)) ?_;refine ba 0 0 (dW rfl rfl) ?_ ?_
         ·intro h45;refine uO 5 ?_;intro a hA;refine cJ hA rfl iR rfl (bQ _ _ _ r A c bs at42 8 hS (by omega) (by omega) (fun w s=>hR w s.drop.drop.drop.drop)) ?_;rintro e w ⟨⟨older,rfl,ho⟩,at',hS'⟩
          ·refine .inr ⟨_,rfl,?_⟩;refine rE 6 hA ?_;clear hA a;intro a hA;refine bV hA ?_;clear hS;have hS:=hS';clear hS';refine .inr ⟨lN hn8 hvec hn20 (cq (n:=v20-(j+1)) (by rw[hq2,show v20-j=(v20-(j+1))+1 from by omega]) (Bv hn25 hn38 hn42 (by omega))),⟨older,rfl,ho⟩,at',8,by decide,((((hS.p 1).drop.p 1).drop.p 1).drop.p 1).drop⟩
         ·intro h45;refine uO 6 ?_;refine u1 0 (aa rfl dg) ?_;refine u1 3 (ld rfl iM) ?_;intro a hA;refine o1 0 hA (ax hA rfl lh) ?_;clear hA a;intro a hA;refine gH (vss:=[[_,_,_]]) hA rfl rfl dZ sd rfl rfl rfl (by simp) rfl hS ?_;clear hA a hS;intro A54 w hS;intro a hA;refine eP hA rfl rfl rfl dZ sd rfl (hS.p 4) (hS.rd.src dZ (by simp[Value.oneCell'])) (by omega) (by omega) ?_;clear hA a hS;intro A55 c55 w hc55 hS;refine u1 0 (aa rfl dg) ?_;intro a hA;refine jR (cs':=[_,_]) hA rfl rfl iM Dg rfl (hS.p 3) rfl rfl ?_;clear hS;intro w hS;refine rO 4 hA ?_;clear hA a;refine u1 2 (aj rfl rfl (by omega) (by omega)) ?_;intro a hA;replace hA:=hA.kp [0,2,3,4,20,21] rfl;rw[show v20-j=(v20-(j+1))+1 from (by omega)]at hq2;have hq3:=jw hq2 (BH hn25 (by omega) hn38 hn42 (by omega))
          rw[←dQ ys (⟨cj ys.getLast?+(v25:Int),a7 xs ys.getLast? (cj ys.getLast?+(v25:Int))+(v38:Int),a7 xs ys.getLast? (cj ys.getLast?+(v25:Int))+(v38:Int)+(v42:Int)⟩:aF)]at hq3;have el:ys.length+1=(ys++[(⟨cj ys.getLast?+(v25:Int),a7 xs ys.getLast? (cj ys.getLast?+(v25:Int))+(v38:Int),a7 xs ys.getLast? (cj ys.getLast?+(v25:Int))+(v38:Int)+(v42:Int)⟩:aF)]).length:=by simp
          have hS2:=jK (((((hS.p 5).p 5).p 5).p 3).p 4) el (cs':=(ys++[(⟨cj ys.getLast?+(v25:Int),a7 xs ys.getLast? (cj ys.getLast?+(v25:Int))+(v38:Int),a7 xs ys.getLast? (cj ys.getLast?+(v25:Int))+(v38:Int)+(v42:Int)⟩:aF)]).flatMap iJ) (by rw[List.flatMap_append];rfl);rw[el]at hS2;rw[show cj ys.getLast?+(v25:Int)=cj (ys++[(⟨cj ys.getLast?+(v25:Int),a7 xs ys.getLast? (cj ys.getLast?+(v25:Int))+(v38:Int),a7 xs ys.getLast? (cj ys.getLast?+(v25:Int))+(v38:Int)+(v42:Int)⟩:aF)]).getLast? from by rw[dQ];rfl]at hA;refine⟨v20-(j+1),by omega,j+1,ys++[(⟨cj ys.getLast?+(v25:Int),a7 xs ys.getLast? (cj ys.getLast?+(v25:Int))+(v38:Int),a7 xs ys.getLast? (cj ys.getLast?+(v25:Int))+(v38:Int)+(v42:Int)⟩:aF)],A55,c55,at42,hA,((((((hS2.p 4).p 1).p 4).p 3).p 4).p 5).drop,by omega,by simp;omega,ha42,hq3,?_,rfl⟩;intro z hz
          rcases List.mem_append.1 hz with hz | hz
          ·exact hy0 z hz
          ·simp only[List.mem_singleton]at hz;subst hz;exact⟨by dsimp only;omega,by dsimp only;omega,by dsimp only;omega,by dsimp only;omega⟩
        ·refine .inr ⟨_,rfl,?_⟩;refine rE 6 hA ?_;clear hA a;intro a hA;refine bV hA ?_;clear hS;have hS:=hS';clear hS';refine .inr ⟨lN hn8 hvec hn20 (cq (n:=v20-(j+1)) (by rw[hq2,show v20-j=(v20-(j+1))+1 from by omega]) (BE hn25 hn38 hn42)),⟨older,rfl,ho⟩,at',er,hne,((((hS.p 1).drop.p 1).drop.p 1).drop.p 1).drop⟩
       ·refine .inr ⟨_,rfl,?_⟩;refine rE 6 hA ?_;clear hA a;intro a hA;refine bV hA ?_;clear hS;have hS:=hS';clear hS';refine .inr ⟨lN hn8 hvec hn20 (cq (n:=v20-(j+1)) (by rw[hq2,show v20-j=(v20-(j+1))+1 from by omega]) (BK hn25 hn38)),⟨older,rfl,ho⟩,at',er,hne,((((hS.p 1).drop.p 1).drop.p 1).drop.p 1).drop⟩
     ·refine .inr ⟨_,rfl,?_⟩;refine rE 6 hA ?_;clear hA a;intro a hA;refine bV hA ?_;clear hS;have hS:=hS';clear hS';refine .inr ⟨lN hn8 hvec hn20 (cq (n:=v20-(j+1)) (by rw[hq2,show v20-j=(v20-(j+1))+1 from by omega]) (BQ hn25)),⟨older,rfl,ho⟩,at',er,hne,((((hS.p 1).drop.p 1).drop.p 1).drop.p 1).drop⟩
    ·intro h22;obtain rfl:j=v20:=by omega
     intro a hA;rw[Nat.sub_self]at hq2;have hcl:=nJ hq2;refine rO 11 hA ?_;clear hA a;refine u1 0 (ag (cs:=[_,_]) rfl bj aC (by exact (hS.p 1).ab (xs:=[_,_]) rfl)) ?_;refine uW (vs:=[_,_]) (cs':=[_,_]) rfl rfl aC (hS.p 4) ?_;clear hS;intro w hS;refine uO 3 ?_;intro a hA;refine js hA rfl (cy (cs:=[_,_]) hA rfl bj aC (by exact hS.ab (xs:=[_,_]) rfl)) ?_;refine .inl ⟨⟨Av,cv,Ac,cc,⟨xs,ys⟩⟩,at2,BP hn8 hvec hn20 hcl,hat2,by show ys.length≤_;omega,rfl,?_⟩;exact (hS.drop.p 1).drop
   ·refine .inr ⟨_,rfl,?_⟩;refine rE 2 hA ?_;clear hA a;intro a hA;refine bV hA ?_;clear hS;have hS:=hS';clear hS';refine .inr ⟨?_,⟨older,rfl,ho⟩,at',er,hne,(((hS.p 1).drop.p 1).drop.p 1).drop⟩;rcases hn20 with h | ⟨k,rr,h,h2⟩
    ·exact B4 hn8 hvec h
    ·exact lN hn8 hvec h (wc hx0 h2)
 ·refine .inr ⟨_,rfl,?_⟩;refine rE 2 hA ?_;clear hA a;intro a hA;refine bV hA ?_;clear hS;have hS:=hS';clear hS';exact .inr ⟨BI hn8,⟨older,rfl,ho⟩,at',er,hne,((hS.p 1).drop.p 1).drop⟩
end Go.Proofs.YtkjabaihpkbfhaaGreat.Wk
namespace Go.Proofs.YtkjabaihpkbfhaaGreat.Wk
open Go Go.RowKit Go.Proofs.YtkjabaihpkbfhaaGreat Go.Proofs.YtkjabaihpkbfhaaGreat.K
def gB (l:List UInt8):Option (List aM×List UInt8):=match a6 9223372036854775807 l with
 | none=>none
 | some (k,l1)=>dG jx k none l1
def gi (l:List UInt8):Option (List br×List UInt8):=match a6 9223372036854775807 l with
 | none=>none
 | some (k,l1)=>dG pq k none l1
theorem sC {l r:List UInt8}{xs:List aM}:gB l=some (xs,r)↔l=cu xs++r∧gv lU none xs∧xs.length≤9223372036854775807:=by
 unfold gB cu;constructor
 ·
  intro h
  split at h
  ·
   cases h
  ·
   rename_i k l1 e1;obtain⟨rfl,h1,h2⟩:=aU.1 e1;obtain⟨rfl,h3,rfl⟩:=(tD.seq k none (fun q hq=>by cases hq) l1 xs r).1 h;exact⟨by rw[List.append_assoc];rfl,h3,h2⟩
 ·
  rintro ⟨rfl,h1,h2⟩;rw[List.append_assoc,aU.2 ⟨rfl,by omega,h2⟩];exact (tD.seq _ none (fun q hq=>by cases hq) _ xs r).2 ⟨rfl,h1,rfl⟩
theorem oq {l r:List UInt8}{xs:List br}:gi l=some (xs,r)↔l=bM xs++r∧gv AQ none xs∧xs.length≤9223372036854775807:=by
 unfold gi bM;constructor
 ·
  intro h
  split at h
  ·
   cases h
  ·
   rename_i k l1 e1;obtain⟨rfl,h1,h2⟩:=aU.1 e1;obtain⟨rfl,h3,rfl⟩:=(tW.seq k none trivial l1 xs r).1 h;exact⟨by rw[List.append_assoc];rfl,h3,h2⟩
 ·
  rintro ⟨rfl,h1,h2⟩;rw[List.append_assoc,aU.2 ⟨rfl,by omega,h2⟩];exact (tW.seq _ none trivial _ xs r).2 ⟨rfl,h1,rfl⟩
theorem Bo {s:ByteArray}(h:nc s=true):1≤s.data.toList.length:=by
 unfold nc xI rm at h
 split at h
 ·
  simp at h
 ·
  omega
theorem xZ {xs:List aM}(h:cO xs=true):xs.length * 5≤(seqB kG none xs).length:=by
 have:∀(l:List aM) (p:Option aM),(∀e∈l,rJ e=true)→l.length * 5≤(seqB kG p l).length:=by
  intro l
  induction l with
  | nil=>intro p _;simp
  | cons x l ih =>
    intro p hp;have h1:=ih (some x) fun e he=>hp e (by simp[he])
    have h2:=hp x (by simp);unfold rJ at h2;simp only[Bool.and_eq_true]at h2;have h3:=Bo h2.1.1.2;have h4:=cb (x.rep-aZ p).toNat;have h5:=cb (x.num-cM p x.rep).toNat;have h6:=cb x.cg.data.toList.length;have h7:=cb (x.pF-1).toNat;have h8:5≤(kG p x).length:=by unfold kG;simp only[List.length_append];omega
    rw[seqB,List.length_append,List.length_cons,Nat.add_mul];omega
 refine this xs none fun e he=>?_;obtain⟨i,hi⟩:=List.mem_iff_getElem?.1 he;have:=iP h i e hi;unfold oh at this;rw[Bool.and_eq_true]at this;exact this.1
theorem mD (p:aB):2+p.vec.length+3 * p.ad.length≤(cE p).length:=by
 unfold cE;have h1:=cb p.vec.length;have h2:=cb p.ad.length;have h3:=gC (g:=(jy 1000000000).g) (k:=1) (fun _ x=>cb x.toNat) p.vec none;have h4:=gC (g:=jL p.vec) (k:=3) (fun q x=>sv _ q x) p.ad none;simp only[List.length_append];omega
theorem zK {r:br}(h:jJ r=true)(p:Option br):4≤(jG p r).length:=by
 have h1:=mD r.a8;have h2:=cb r.cg.data.toList.length
 have h3:1≤r.a8.vec.length+r.a8.ad.length:=by
  rcases Nat.eq_zero_or_pos (r.a8.vec.length+r.a8.ad.length) with h0 | h0
  ·
   have e1:r.a8.vec=[]:=List.eq_nil_of_length_eq_zero (by omega);have e2:r.a8.ad=[]:=List.eq_nil_of_length_eq_zero (by omega);have e3:r.a8=⟨[],[]⟩:=rh e1 e2;unfold jJ at h;rw[e3,show dN ⟨[],[]⟩=true from by decide]at h;simp at h
  ·
   exact h0
 unfold jG;simp only[List.length_append];omega
theorem yS {xs:List br}(h:df xs=true):xs.length * 4≤(seqB jG none xs).length:=by
 have:∀(l:List br) (p:Option br),(∀e∈l,jJ e=true)→l.length * 4≤(seqB jG p l).length:=by
  intro l
  induction l with
  | nil=>intro p _;simp
  | cons x l ih =>
    intro p hp;have h1:=ih (some x) fun e he=>hp e (by simp[he])
    have h2:=zK (hp x (by simp)) p;rw[seqB,List.length_append,List.length_cons,Nat.add_mul];omega
 exact this xs none (fX h)
theorem u5 (xs:List br):cm (xs.map br.a8)≤(bM xs).length:=by
 have:∀(l:List br) (p:Option br),cm (l.map br.a8)≤(seqB jG p l).length:=by
  intro l
  induction l with
  | nil=>intro p;simp[cm]
  | cons x l ih =>
    intro p;have h1:=ih (some x);have h2:=mD x.a8;have h3:(cE x.a8).length≤(jG p x).length:=by unfold jG;simp only[List.length_append];omega
    have h6:cm ((x::l).map br.a8)=x.a8.ad.length+1+cm (l.map br.a8):=by unfold cm;simp
    rw[seqB,List.length_append,h6];omega
 unfold bM;rw[List.length_append];have:=this xs none;omega
theorem BC {l:List UInt8}(h:a6 9223372036854775807 l=none):gB l=none:=by unfold gB;rw[h]
theorem fm {l l1:List UInt8}{k:Nat}{o:Option (List aM×List UInt8)}(h:a6 9223372036854775807 l=some (k,l1))(h2:dG jx k none l1=o):gB l=o:=by unfold gB;rw[h];exact h2
theorem vT {l l1:List UInt8}{k:Nat}(h:a6 9223372036854775807 l=some (k,l1))(h2:l1.length<k * 5):∀xs r,gB l=some (xs,r)→cO xs=false:=fun xs r hx=>by
 rw[fm h rfl]at hx;obtain⟨rfl,_,rfl⟩:=(tD.seq k none (fun q hq=>by cases hq) l1 xs r).1 hx;rw[Bool.eq_false_iff];intro hb;have h3:xs.length * 5≤(seqB tD.g none xs).length:=xZ hb;rw[List.length_append]at h2;omega
theorem BL {l:List UInt8}(h:a6 9223372036854775807 l=none):gi l=none:=by unfold gi;rw[h]
theorem pz {l l1:List UInt8}{k:Nat}{o:Option (List br×List UInt8)}(h:a6 9223372036854775807 l=some (k,l1))(h2:dG pq k none l1=o):gi l=o:=by unfold gi;rw[h];exact h2
theorem wU {l l1:List UInt8}{k:Nat}(h:a6 9223372036854775807 l=some (k,l1))(h2:l1.length<k * 4):∀xs r,gi l=some (xs,r)→df xs=false:=fun xs r hx=>by
 rw[pz h rfl]at hx;obtain⟨rfl,_,rfl⟩:=(tW.seq k none trivial l1 xs r).1 hx;rw[Bool.eq_false_iff];intro hb;have h3:xs.length * 4≤(seqB tW.g none xs).length:=yS hb;rw[List.length_append]at h2;omega
theorem dn {α β:Type}{o:Option (α×β)}{f:α→Bool}(h:o=none):∀xs r,o=some (xs,r)→f xs=false:=fun xs r hx=>by rw[h]at hx;cases hx
theorem Du {p:Option aM}{l:List UInt8}(h:a6 16 l=none):jx p l=none:=by unfold jx;rw[h]
theorem AA {p:Option aM}{l l1:List UInt8}{st:Nat}(h:a6 16 l=some (st,l1))(h2:a6 1000000000 l1=none):jx p l=none:=by unfold jx;rw[h];simp only;rw[h2]
theorem wF {p:Option aM}{l l1 l2:List UInt8}{st sk:Nat}(h:a6 16 l=some (st,l1))(h2:a6 1000000000 l1=some (sk,l2))(h3:16≤aZ p+st∨1000000000<cM p (aZ p+st)+sk):jx p l=none:=by unfold jx;rw[h];simp only;rw[h2];simp only;rw[if_pos h3]
theorem Bh {p:Option aM}{l l1 l2:List UInt8}{st sk:Nat}(h:a6 16 l=some (st,l1))(h2:a6 1000000000 l1=some (sk,l2))(h4:bX 24 l2=none):jx p l=none:=by
 unfold jx;rw[h];simp only;rw[h2];simp only
 split
 ·
  rfl
 ·
  rw[h4]
theorem Ak {p:Option aM}{l l1 l2 l3 t:List UInt8}{st sk:Nat}(h:a6 16 l=some (st,l1))(h2:a6 1000000000 l1=some (sk,l2))(h4:bX 24 l2=some (t,l3))(h5:a6 1000000 l3=none):jx p l=none:=by
 unfold jx;rw[h];simp only;rw[h2];simp only
 split
 ·
  rfl
 ·
  rw[h4];simp only;rw[h5]
theorem zj {p:Option aM}{l l1 l2 l3 l4 t:List UInt8}{st sk q:Nat}(h:a6 16 l=some (st,l1))(h2:a6 1000000000 l1=some (sk,l2))(h3:¬(16≤aZ p+st∨1000000000<cM p (aZ p+st)+sk))(h4:bX 24 l2=some (t,l3))(h5:a6 1000000 l3=some (q,l4)):jx p l=some (⟨aZ p+st,cM p (aZ p+st)+sk,str t,q+1⟩,l4):=by
 unfold jx;rw[h];simp only;rw[h2];simp only;rw[if_neg h3,h4];simp only;rw[h5]
theorem CY {p:Option aM}{st:Nat}(h:0<st):cM p (aZ p+st)=1:=lJ (by omega)
theorem Df {p:Option aM}{st:Nat}(h:¬(0:Int)<(st:Int)):cM p (aZ p+st)=n5 p:=jX (by omega)
theorem zw {xs:List aM}(h:∀e∈xs,0≤e.rep∧e.rep<16∧1≤e.num∧e.num≤1000000000):0≤aZ xs.getLast?∧aZ xs.getLast? < 16∧1≤n5 xs.getLast?∧n5 xs.getLast?≤1000000001:=by
 unfold aZ n5;cases e:xs.getLast? with
 | none=>simp
 | some q=>have:=h q (List.mem_of_getLast? e);simp only;omega
theorem Dc {p:Option br}{l:List UInt8}(h:bX 24 l=none):pq p l=none:=by unfold pq;rw[h]
theorem Dd {p:Option br}{l l1 t:List UInt8}(h:bX 24 l=some (t,l1))(h2:dC l1=none):pq p l=none:=by unfold pq;rw[h];simp only;rw[h2]
theorem C3 {p:Option br}{l l1 l2 t:List UInt8}{q:aB}(h:bX 24 l=some (t,l1))(h2:dC l1=some (q,l2)):pq p l=some (⟨str t,q⟩,l2):=by unfold pq;rw[h];simp only;rw[h2]
end Go.Proofs.YtkjabaihpkbfhaaGreat.Wk
namespace Go.Proofs.YtkjabaihpkbfhaaGreat.Wk
open Go Go.RowKit Go.Proofs.YtkjabaihpkbfhaaGreat Go.Proofs.YtkjabaihpkbfhaaGreat.K Go.Proofs.YtkjabaihpkbfhaaGreat.T
theorem om (W w:World)(L:List As)(r:Nat)(A:Option Addr)(c:Nat)(bs:List UInt8)(at_:Nat)(hS:Sat W w (eR r A c bs at_ true 0::L))(hat:at_≤bs.length)(hb:bs.length≤1000000000000)(hR:∀w,Sat W w L→Rd w 1 (.slice A bs.length c) bs.length (bs.map ao)):Calls Tryz.prog 381 #[.pointer (some ⟨r,0,none⟩)] w fun e w'=>(∃(Ae:Option Addr) (ce:Nat) (xs:List aM) (at':Nat),gB (bs.drop at_)=some (xs,bs.drop at')∧at'≤bs.length∧xs.length * 5≤bs.length∧e=.returned (.slice Ae (xs).length ce)∧Sat W w' (eR r A c bs (at':Int) true 0::fN 216 Ae ce xs::L))∨((∀xs rr,gB (bs.drop at_)=some (xs,rr)→cO xs=false)∧te (.iface 271 (.agg #[.pointer (some ⟨r,0,none⟩)])) e∧∃at' er:Int,er≠0∧Sat W w' (eR r A c bs at' true er::L)):=by
 refine enter Tryz.func381 rfl rfl rfl (.cons (i:=0) rfl .nil) ?_;refine uC 20 ?_;intro a hA;refine cJ hA rfl uT rfl (eX _ _ _ r A c bs at_ 5 hS (by omega) (by omega) hR (by decide) (by decide)) ?_;rintro e w (⟨v10,at10,hn10,ha10,hk10,rfl,hS'⟩ | ⟨hn10,⟨older,rfl,ho⟩,at',er,hne,hS'⟩)
 ·clear hS;have hS:=hS';clear hS';rw[show (5:Int).toNat=5 from rfl]at hk10;refine .inl ⟨_,rfl,?_⟩;clear hA a;refine uO 4 ?_;intro a hA;refine wp_loop_ghost (fun (mm:Nat) a w=>∃(i:Nat) (xs:List aM) (Ae:Option Addr) (ce at1:Nat),Ag a 52 [(0,.pointer (some ⟨r,0,none⟩)),(3,.slice Ae (xs).length ce),(4,.int .i64 ((aZ xs.getLast?))),(5,.int .i64 ((n5 xs.getLast?))),(10,.int .i64 ((v10:Nat):Int)),(11,.int .i64 ((i:Nat):Int))]∧Sat W w (eR r A c bs (at1:Int) true 0::fN 216 Ae ce xs::L)∧(i≤v10)∧(xs.length=i)∧(at1≤bs.length)∧(dG jx v10 none (bs.drop at10)=(dG jx (v10-i) xs.getLast? (bs.drop at1)).map fun q=>(xs++q.1,q.2))∧(∀e∈xs,0≤e.rep∧e.rep<16∧1≤e.num∧e.num≤1000000000)∧mm=v10-i) v10 ?_ ?_
  ·replace hA:=hA.kp [0,3,4,5,10,11] rfl;exact⟨0,[],none,0,at10,hA,((hS.bp 216 4).p 1),(by omega),(by rfl),(by omega),(by exact j6),(by intro v hv;cases hv),by omega⟩
  intro m a w hI;clear hS hA;obtain⟨i,xs,Ae,ce,at1,hA,hS,hi,hxl,hat1,hq,hx0,rfl⟩:=hI;refine rC 2 hA ?_;clear hA a;refine ba 0 0 (aA rfl rfl) ?_ ?_
  ·intro h12;obtain⟨hp0,hp1,hp2,hp3⟩:=zw hx0;refine uO 11 ?_;intro a hA;refine cJ hA rfl fk rfl (bx _ _ _ r A c bs at1 16 hS (by omega) (by omega) (fun w s=>hR w s.drop)) ?_;rintro e w (⟨v14,at14,hn14,ha14,hv14,hw14,rfl,hS'⟩ | ⟨hn14,⟨older,rfl,ho⟩,at',er,hne,hS'⟩)
   ·clear hS;have hS:=hS';clear hS';refine .inl ⟨_,rfl,?_⟩;clear hA a;refine uO 7 ?_;refine ba 0 0 (dW rfl rfl) ?_ ?_
    ·intro h16;have hnx:cM xs.getLast? (aZ xs.getLast?+(v14:Int))=1:=CY (by omega);refine uO 6 ?_;refine u1 9 (aj rfl rfl (by omega) (by omega)) ?_;intro a hA;refine cJ hA rfl fk rfl (bx _ _ _ r A c bs at14 1000000000 hS (by omega) (by omega) (fun w s=>hR w s.drop)) ?_;rintro e w (⟨v23,at23,hn23,ha23,hv23,hw23,rfl,hS'⟩ | ⟨hn23,⟨older,rfl,ho⟩,at',er,hne,hS'⟩)
     ·clear hS;have hS:=hS';clear hS';refine .inl ⟨_,rfl,?_⟩;clear hA a;refine u1 0 (aj rfl rfl (by omega) (by omega)) ?_;intro a hA;refine o1 0 hA (ax hA rfl sA) ?_;clear hA a;refine uN zq hS ?_;clear hS;intro b7 w hS;refine uW (vs:=[_,_]) (cs':=[_,_]) rfl rfl gO hS ?_;clear hS;intro w hS;refine uO 5 ?_;refine u1 0 (aa rfl cD) ?_;refine u1 0 (ld rfl bq) ?_;refine ba 0 0 (gQ rfl rfl) ?_ ?_
      ·intro h28;refine uO 10 ?_;intro a hA;refine cJ hA rfl iR rfl (bQ _ _ _ r A c bs at23 8 (hS.p 1) (by omega) (by omega) (fun w s=>hR w s.drop.drop)) ?_;rintro e w ⟨⟨older,rfl,ho⟩,at',hS'⟩
       ·refine .inr ⟨_,rfl,?_⟩;refine rE 6 hA ?_;clear hA a;intro a hA;refine bV hA ?_;clear hS;have hS:=hS';clear hS';refine .inr ⟨dn (fm hn10 (cq (n:=v10-(i+1)) (by rw[hq,show v10-i=(v10-(i+1))+1 from by omega]) (wF hn14 hn23 (by rw[hnx];omega)))),⟨older,rfl,ho⟩,at',8,by decide,((hS.p 1).drop.p 1).drop⟩
      ·intro h28;refine uO 1 ?_;refine u1 0 (aa rfl cT) ?_;refine u1 0 (ld rfl bq) ?_;refine ba 0 0 (dW rfl rfl) ?_ ?_
       ·intro h32;refine uO 6 ?_;intro a hA;refine cJ hA rfl iR rfl (bQ _ _ _ r A c bs at23 8 (hS.p 1) (by omega) (by omega) (fun w s=>hR w s.drop.drop)) ?_;rintro e w ⟨⟨older,rfl,ho⟩,at',hS'⟩
        ·refine .inr ⟨_,rfl,?_⟩;refine rE 6 hA ?_;clear hA a;intro a hA;refine bV hA ?_;clear hS;have hS:=hS';clear hS';refine .inr ⟨dn (fm hn10 (cq (n:=v10-(i+1)) (by rw[hq,show v10-i=(v10-(i+1))+1 from by omega]) (wF hn14 hn23 (by rw[hnx];omega)))),⟨older,rfl,ho⟩,at',8,by decide,((hS.p 1).drop.p 1).drop⟩
       ·intro h32;refine uO 9 ?_;intro a hA;refine cJ hA rfl zL rfl (jU _ _ _ r A c bs at23 24 (hS.p 1) (by omega) (by omega) (fun w s=>hR w s.drop.drop)) ?_;rintro e w (⟨s37,at37,hn37,ha37,rfl,hS'⟩ | ⟨hn37,⟨older,rfl,ho⟩,at',er,hne,hS'⟩)
        ·clear hS;have hS:=hS';clear hS';refine .inl ⟨_,rfl,?_⟩;clear hA a;refine uO 4 ?_;intro a hA;refine jP [8] (kx W (aS b7 (.cells #[.int .i64 (aZ xs.getLast?+(v14:Int)),.int .i64 (1+(v23:Int))] 214)::fN 216 Ae ce xs::L)) (by kernel_rfl) ?_;replace hS:=hS.drew;refine rX [0] hA ?_;clear hA a;refine dH 1 [2,3] rfl (by exact⟨[_],hS⟩) (fun w hT=>have hS:=hT.sat;(ag (cs:=[_,_]) rfl mh gO (by exact hS.ab (xs:=[_,_]) rfl))) ?_;intro a hA;refine aG 4 (by kernel_rfl) ?_;refine Cc hA rfl rfl fk rfl (bx _ _ _ r A c bs at37 1000000 hS (by omega) (by omega) (fun w s=>hR w s.drop.drop)) ?_;rintro e w (⟨v42,at42,hn42,ha42,hv42,hw42,rfl,hS'⟩ | ⟨hn42,⟨older,rfl,ho⟩,at',er,hne,hS'⟩)
         rotate_left 1
         ·refine .inr ⟨_,rfl,?_⟩;refine rE 6 hA ?_;clear hA a;intro a hA;refine bV hA ?_;clear hS;have hS:=hS';clear hS';refine .inr ⟨dn (fm hn10 (cq (n:=v10-(i+1)) (by rw[hq,show v10-i=(v10-(i+1))+1 from by omega]) (Ak hn14 hn23 hn37 hn42))),⟨older,rfl,ho⟩,at',er,hne,((hS.p 1).drop.p 1).drop⟩
         clear hS;have hS:=hS';clear hS';refine .inl ⟨_,rfl,?_⟩;clear hA a;intro a hA;refine⟨.inr fun _=>(by exact⟨[_],hS⟩),?_⟩;refine P1 5 [] hA rfl (fun w=>(aj (hA.ev rfl) (hA.ev rfl) (by omega) (by omega))) ?_;clear hA a;intro a hA;refine P1 6 [] hA rfl (fun w=>(ax hA rfl o2)) ?_;clear hA a;intro a hA;refine aG 7 (by kernel_rfl) ?_;refine tk (vss:=[[_,_,_,_]]) hA rfl rfl rfl bz fL rfl rfl rfl (by simp) rfl hS ?_;clear hA a hS;intro A45 w hS;intro a hA;refine⟨.inr fun _=>(by exact⟨[_,_],hS⟩),?_⟩;refine aG 8 (by kernel_rfl) ?_
         first | refine eA hA rfl rfl rfl rfl bz fL rfl hS (by exact hS.rd.src bz (by simp[Value.oneCell'])) (by omega) (by omega) ?_ | refine eA hA rfl rfl rfl rfl bz fL rfl (hS.p 1) (by exact hS.rd.src bz (by simp[Value.oneCell'])) (by omega) (by omega) ?_ | refine eA hA rfl rfl rfl rfl bz fL rfl (hS.p 2) (by exact hS.rd.src bz (by simp[Value.oneCell'])) (by omega) (by omega) ?_ | refine eA hA rfl rfl rfl rfl bz fL rfl (hS.p 3) (by exact hS.rd.src bz (by simp[Value.oneCell'])) (by omega) (by omega) ?_ | refine eA hA rfl rfl rfl rfl bz fL rfl (hS.p 4) (by first | exact hS.rd.src bz (by simp[Value.oneCell']) | exact (hS.p 1).rd.src bz (by simp[Value.oneCell']) | exact (hS.p 2).rd.src bz (by simp[Value.oneCell']) | exact (hS.p 3).rd.src bz (by simp[Value.oneCell']) | exact (hS.p 4).rd.src bz (by simp[Value.oneCell']) | exact (hS.p 5).rd.src bz (by simp[Value.oneCell']) | exact (hS.p 6).rd.src bz (by simp[Value.oneCell'])) (by omega) (by omega) ?_ | refine eA hA rfl rfl rfl rfl bz fL rfl (hS.p 5) (by first | exact hS.rd.src bz (by simp[Value.oneCell']) | exact (hS.p 1).rd.src bz (by simp[Value.oneCell']) | exact (hS.p 2).rd.src bz (by simp[Value.oneCell']) | exact (hS.p 3).rd.src bz (by simp[Value.oneCell']) | exact (hS.p 4).rd.src bz (by simp[Value.oneCell']) | exact (hS.p 5).rd.src bz (by simp[Value.oneCell']) | exact (hS.p 6).rd.src bz (by simp[Value.oneCell'])) (by omega) (by omega) ?_ | refine eA hA rfl rfl rfl rfl bz fL rfl (hS.p 6) (by first | exact hS.rd.src bz (by simp[Value.oneCell']) | exact (hS.p 1).rd.src bz (by simp[Value.oneCell']) | exact (hS.p 2).rd.src bz (by simp[Value.oneCell']) | exact (hS.p 3).rd.src bz (by simp[Value.oneCell']) | exact (hS.p 4).rd.src bz (by simp[Value.oneCell']) | exact (hS.p 5).rd.src bz (by simp[Value.oneCell']) | exact (hS.p 6).rd.src bz (by simp[Value.oneCell'])) (by omega) (by omega) ?_
         clear hA a hS;intro A46 c46 w hc46 hS;intro a hA;refine⟨.inl rfl,?_⟩;refine rX [9] hA ?_;clear hA a;intro a hA;refine ai (by kernel_rfl) ?_ _;refine rE 2 hA ?_;clear hA a;refine u1 0 (aa rfl cT) ?_;refine u1 0 (ld rfl bq) ?_;refine u1 5 (aj rfl rfl (by omega) (by omega)) ?_;refine u1 2 (aj rfl rfl (by omega) (by omega)) ?_;intro a hA;replace hA:=hA.kp [0,3,4,5,10,11] rfl;rw[show v10-i=(v10-(i+1))+1 from (by omega)]at hq
         have he:jx xs.getLast? (bs.drop at1)=some ((⟨aZ xs.getLast?+(v14:Int),1+(v23:Int),str s37,(v42:Int)+1⟩:aM),bs.drop at42):=by
          rw[zj hn14 hn23 (by rw[hnx];omega) hn37 hn42,hnx]
         have hq2:=jw hq he;rw[←dQ xs (⟨aZ xs.getLast?+(v14:Int),1+(v23:Int),str s37,(v42:Int)+1⟩:aM)]at hq2;have el:xs.length+1=(xs++[(⟨aZ xs.getLast?+(v14:Int),1+(v23:Int),str s37,(v42:Int)+1⟩:aM)]).length:=by simp
         have hS2:=jK hS el (cs':=(xs++[(⟨aZ xs.getLast?+(v14:Int),1+(v23:Int),str s37,(v42:Int)+1⟩:aM)]).flatMap mH) (by rw[List.flatMap_append];rfl);have ea:aZ xs.getLast?+(v14:Int)=aZ (xs++[(⟨aZ xs.getLast?+(v14:Int),1+(v23:Int),str s37,(v42:Int)+1⟩:aM)]).getLast?:=by rw[dQ];rfl
         have eb:1+(v23:Int)+1=n5 (xs++[(⟨aZ xs.getLast?+(v14:Int),1+(v23:Int),str s37,(v42:Int)+1⟩:aM)]).getLast?:=by rw[dQ];rfl
         rw[ea,eb]at hA;rw[el]at hA;refine⟨v10-(i+1),by omega,i+1,xs++[(⟨aZ xs.getLast?+(v14:Int),1+(v23:Int),str s37,(v42:Int)+1⟩:aM)],A46,c46,at42,hA,(((hS2.p 2).p 3).p 3).drop.drop,by omega,by simp;omega,ha42,hq2,?_,rfl⟩;intro z hz;rcases List.mem_append.1 hz with hz | hz
         ·exact hx0 z hz
         ·simp only[List.mem_singleton]at hz;subst hz;exact⟨by dsimp only;omega,by dsimp only;omega,by dsimp only;omega,by dsimp only;omega⟩
        ·refine .inr ⟨_,rfl,?_⟩;refine rE 6 hA ?_;clear hA a;intro a hA;refine bV hA ?_;clear hS;have hS:=hS';clear hS';refine .inr ⟨dn (fm hn10 (cq (n:=v10-(i+1)) (by rw[hq,show v10-i=(v10-(i+1))+1 from by omega]) (Bh hn14 hn23 hn37))),⟨older,rfl,ho⟩,at',er,hne,((hS.p 1).drop.p 1).drop⟩
     ·refine .inr ⟨_,rfl,?_⟩;refine rE 6 hA ?_;clear hA a;intro a hA;refine bV hA ?_;clear hS;have hS:=hS';clear hS';refine .inr ⟨dn (fm hn10 (cq (n:=v10-(i+1)) (by rw[hq,show v10-i=(v10-(i+1))+1 from by omega]) (AA hn14 hn23))),⟨older,rfl,ho⟩,at',er,hne,(hS.p 1).drop⟩
    ·intro h16;have hnx:cM xs.getLast? (aZ xs.getLast?+(v14:Int))=n5 xs.getLast?:=Df h16;refine uO 10 ?_;intro a hA;refine cJ hA rfl fk rfl (bx _ _ _ r A c bs at14 1000000000 hS (by omega) (by omega) (fun w s=>hR w s.drop)) ?_;rintro e w (⟨v23,at23,hn23,ha23,hv23,hw23,rfl,hS'⟩ | ⟨hn23,⟨older,rfl,ho⟩,at',er,hne,hS'⟩)
     ·clear hS;have hS:=hS';clear hS';refine .inl ⟨_,rfl,?_⟩;clear hA a;refine u1 0 (aj rfl rfl (by omega) (by omega)) ?_;intro a hA;refine o1 0 hA (ax hA rfl sA) ?_;clear hA a;refine uN zq hS ?_;clear hS;intro b7 w hS;refine uW (vs:=[_,_]) (cs':=[_,_]) rfl rfl gO hS ?_;clear hS;intro w hS;refine uO 5 ?_;refine u1 0 (aa rfl cD) ?_;refine u1 0 (ld rfl bq) ?_;refine ba 0 0 (gQ rfl rfl) ?_ ?_
      ·intro h28;intro a hA;exfalso;omega
      ·intro h28;refine uO 1 ?_;refine u1 0 (aa rfl cT) ?_;refine u1 0 (ld rfl bq) ?_;refine ba 0 0 (dW rfl rfl) ?_ ?_
       ·intro h32;refine uO 6 ?_;intro a hA;refine cJ hA rfl iR rfl (bQ _ _ _ r A c bs at23 8 (hS.p 1) (by omega) (by omega) (fun w s=>hR w s.drop.drop)) ?_;rintro e w ⟨⟨older,rfl,ho⟩,at',hS'⟩
        ·refine .inr ⟨_,rfl,?_⟩;refine rE 6 hA ?_;clear hA a;intro a hA;refine bV hA ?_;clear hS;have hS:=hS';clear hS';refine .inr ⟨dn (fm hn10 (cq (n:=v10-(i+1)) (by rw[hq,show v10-i=(v10-(i+1))+1 from by omega]) (wF hn14 hn23 (by rw[hnx];omega)))),⟨older,rfl,ho⟩,at',8,by decide,((hS.p 1).drop.p 1).drop⟩
       ·intro h32;refine uO 9 ?_;intro a hA;refine cJ hA rfl zL rfl (jU _ _ _ r A c bs at23 24 (hS.p 1) (by omega) (by omega) (fun w s=>hR w s.drop.drop)) ?_;rintro e w (⟨s37,at37,hn37,ha37,rfl,hS'⟩ | ⟨hn37,⟨older,rfl,ho⟩,at',er,hne,hS'⟩)
        ·clear hS;have hS:=hS';clear hS';refine .inl ⟨_,rfl,?_⟩;clear hA a;refine uO 4 ?_;intro a hA;refine jP [8] (kx W (aS b7 (.cells #[.int .i64 (aZ xs.getLast?),.int .i64 (n5 xs.getLast?+(v23:Int))] 214)::fN 216 Ae ce xs::L)) (by kernel_rfl) ?_;replace hS:=hS.drew;refine rX [0] hA ?_;clear hA a;refine dH 1 [2,3] rfl (by exact⟨[_],hS⟩) (fun w hT=>have hS:=hT.sat;(ag (cs:=[_,_]) rfl mh gO (by exact hS.ab (xs:=[_,_]) rfl))) ?_;intro a hA;refine aG 4 (by kernel_rfl) ?_;refine Cc hA rfl rfl fk rfl (bx _ _ _ r A c bs at37 1000000 hS (by omega) (by omega) (fun w s=>hR w s.drop.drop)) ?_;rintro e w (⟨v42,at42,hn42,ha42,hv42,hw42,rfl,hS'⟩ | ⟨hn42,⟨older,rfl,ho⟩,at',er,hne,hS'⟩)
         rotate_left 1
         ·refine .inr ⟨_,rfl,?_⟩;refine rE 6 hA ?_;clear hA a;intro a hA;refine bV hA ?_;clear hS;have hS:=hS';clear hS';refine .inr ⟨dn (fm hn10 (cq (n:=v10-(i+1)) (by rw[hq,show v10-i=(v10-(i+1))+1 from by omega]) (Ak hn14 hn23 hn37 hn42))),⟨older,rfl,ho⟩,at',er,hne,((hS.p 1).drop.p 1).drop⟩
         clear hS;have hS:=hS';clear hS';refine .inl ⟨_,rfl,?_⟩;clear hA a;intro a hA;refine⟨.inr fun _=>(by exact⟨[_],hS⟩),?_⟩;refine P1 5 [] hA rfl (fun w=>(aj (hA.ev rfl) (hA.ev rfl) (by omega) (by omega))) ?_;clear hA a;intro a hA;refine P1 6 [] hA rfl (fun w=>(ax hA rfl o2)) ?_;clear hA a;intro a hA;refine aG 7 (by kernel_rfl) ?_;refine tk (vss:=[[_,_,_,_]]) hA rfl rfl rfl bz fL rfl rfl rfl (by simp) rfl hS ?_;clear hA a hS;intro A45 w hS;intro a hA;refine⟨.inr fun _=>(by exact⟨[_,_],hS⟩),?_⟩;refine aG 8 (by kernel_rfl) ?_
         first | refine eA hA rfl rfl rfl rfl bz fL rfl hS (by exact hS.rd.src bz (by simp[Value.oneCell'])) (by omega) (by omega) ?_ | refine eA hA rfl rfl rfl rfl bz fL rfl (hS.p 1) (by exact hS.rd.src bz (by simp[Value.oneCell'])) (by omega) (by omega) ?_ | refine eA hA rfl rfl rfl rfl bz fL rfl (hS.p 2) (by exact hS.rd.src bz (by simp[Value.oneCell'])) (by omega) (by omega) ?_ | refine eA hA rfl rfl rfl rfl bz fL rfl (hS.p 3) (by exact hS.rd.src bz (by simp[Value.oneCell'])) (by omega) (by omega) ?_ | refine eA hA rfl rfl rfl rfl bz fL rfl (hS.p 4) (by first | exact hS.rd.src bz (by simp[Value.oneCell']) | exact (hS.p 1).rd.src bz (by simp[Value.oneCell']) | exact (hS.p 2).rd.src bz (by simp[Value.oneCell']) | exact (hS.p 3).rd.src bz (by simp[Value.oneCell']) | exact (hS.p 4).rd.src bz (by simp[Value.oneCell']) | exact (hS.p 5).rd.src bz (by simp[Value.oneCell']) | exact (hS.p 6).rd.src bz (by simp[Value.oneCell'])) (by omega) (by omega) ?_ | refine eA hA rfl rfl rfl rfl bz fL rfl (hS.p 5) (by first | exact hS.rd.src bz (by simp[Value.oneCell']) | exact (hS.p 1).rd.src bz (by simp[Value.oneCell']) | exact (hS.p 2).rd.src bz (by simp[Value.oneCell']) | exact (hS.p 3).rd.src bz (by simp[Value.oneCell']) | exact (hS.p 4).rd.src bz (by simp[Value.oneCell']) | exact (hS.p 5).rd.src bz (by simp[Value.oneCell']) | exact (hS.p 6).rd.src bz (by simp[Value.oneCell'])) (by omega) (by omega) ?_ | refine eA hA rfl rfl rfl rfl bz fL rfl (hS.p 6) (by first | exact hS.rd.src bz (by simp[Value.oneCell']) | exact (hS.p 1).rd.src bz (by simp[Value.oneCell']) | exact (hS.p 2).rd.src bz (by simp[Value.oneCell']) | exact (hS.p 3).rd.src bz (by simp[Value.oneCell']) | exact (hS.p 4).rd.src bz (by simp[Value.oneCell']) | exact (hS.p 5).rd.src bz (by simp[Value.oneCell']) | exact (hS.p 6).rd.src bz (by simp[Value.oneCell'])) (by omega) (by omega) ?_
         clear hA a hS;intro A46 c46 w hc46 hS;intro a hA;refine⟨.inl rfl,?_⟩;refine rX [9] hA ?_;clear hA a;intro a hA;refine ai (by kernel_rfl) ?_ _;refine rE 2 hA ?_;clear hA a;refine u1 0 (aa rfl cT) ?_;refine u1 0 (ld rfl bq) ?_;refine u1 5 (aj rfl rfl (by omega) (by omega)) ?_;refine u1 2 (aj rfl rfl (by omega) (by omega)) ?_;intro a hA;replace hA:=hA.kp [0,3,4,5,10,11] rfl;rw[show v10-i=(v10-(i+1))+1 from (by omega)]at hq
         have he:jx xs.getLast? (bs.drop at1)=some ((⟨aZ xs.getLast?,n5 xs.getLast?+(v23:Int),str s37,(v42:Int)+1⟩:aM),bs.drop at42):=by
          rw[zj hn14 hn23 (by rw[hnx];omega) hn37 hn42,hnx];rw[show aZ xs.getLast?+(v14:Int)=aZ xs.getLast? from by omega]
         have hq2:=jw hq he;rw[←dQ xs (⟨aZ xs.getLast?,n5 xs.getLast?+(v23:Int),str s37,(v42:Int)+1⟩:aM)]at hq2;have el:xs.length+1=(xs++[(⟨aZ xs.getLast?,n5 xs.getLast?+(v23:Int),str s37,(v42:Int)+1⟩:aM)]).length:=by simp
         have hS2:=jK hS el (cs':=(xs++[(⟨aZ xs.getLast?,n5 xs.getLast?+(v23:Int),str s37,(v42:Int)+1⟩:aM)]).flatMap mH) (by rw[List.flatMap_append];rfl);have ea:aZ xs.getLast?=aZ (xs++[(⟨aZ xs.getLast?,n5 xs.getLast?+(v23:Int),str s37,(v42:Int)+1⟩:aM)]).getLast?:=by rw[dQ];rfl
         have eb:n5 xs.getLast?+(v23:Int)+1=n5 (xs++[(⟨aZ xs.getLast?,n5 xs.getLast?+(v23:Int),str s37,(v42:Int)+1⟩:aM)]).getLast?:=by rw[dQ];rfl
         rw[ea,eb]at hA;rw[el]at hA;refine⟨v10-(i+1),by omega,i+1,xs++[(⟨aZ xs.getLast?,n5 xs.getLast?+(v23:Int),str s37,(v42:Int)+1⟩:aM)],A46,c46,at42,hA,(((hS2.p 2).p 3).p 3).drop.drop,by omega,by simp;omega,ha42,hq2,?_,rfl⟩;intro z hz;rcases List.mem_append.1 hz with hz | hz
         ·exact hx0 z hz
         ·simp only[List.mem_singleton]at hz;subst hz;exact⟨by dsimp only;omega,by dsimp only;omega,by dsimp only;omega,by dsimp only;omega⟩
        ·refine .inr ⟨_,rfl,?_⟩;refine rE 6 hA ?_;clear hA a;intro a hA;refine bV hA ?_;clear hS;have hS:=hS';clear hS';refine .inr ⟨dn (fm hn10 (cq (n:=v10-(i+1)) (by rw[hq,show v10-i=(v10-(i+1))+1 from by omega]) (Bh hn14 hn23 hn37))),⟨older,rfl,ho⟩,at',er,hne,((hS.p 1).drop.p 1).drop⟩
     ·refine .inr ⟨_,rfl,?_⟩;refine rE 6 hA ?_;clear hA a;intro a hA;refine bV hA ?_;clear hS;have hS:=hS';clear hS';refine .inr ⟨dn (fm hn10 (cq (n:=v10-(i+1)) (by rw[hq,show v10-i=(v10-(i+1))+1 from by omega]) (AA hn14 hn23))),⟨older,rfl,ho⟩,at',er,hne,(hS.p 1).drop⟩
   ·refine .inr ⟨_,rfl,?_⟩;refine rE 6 hA ?_;clear hA a;intro a hA;refine bV hA ?_;clear hS;have hS:=hS';clear hS';refine .inr ⟨dn (fm hn10 (cq (n:=v10-(i+1)) (by rw[hq,show v10-i=(v10-(i+1))+1 from by omega]) (Du hn14))),⟨older,rfl,ho⟩,at',er,hne,(hS.p 1).drop⟩
  ·intro h12;obtain rfl:i=v10:=by omega
   intro a hA;rw[Nat.sub_self]at hq;have hend:=nJ hq;refine rO 15 hA ?_;clear hA a;intro a hA;replace hA:=hA.kp [2] rfl;refine rC 1 hA ?_;clear hA a;refine bt ?_;exact .inl ⟨Ae,ce,xs,at1,fm hn10 hend,hat1,by omega,rfl,hS⟩
 ·refine .inr ⟨_,rfl,?_⟩;refine rE 2 hA ?_;clear hA a;intro a hA;refine bV hA ?_;clear hS;have hS:=hS';clear hS';refine .inr ⟨?_,⟨older,rfl,ho⟩,at',er,hne,hS⟩;rcases hn10 with h | ⟨k,rr,h,h2⟩
  ·exact dn (BC h)
  ·exact vT h h2
theorem oJ (W w:World)(L:List As)(r:Nat)(A:Option Addr)(c:Nat)(bs:List UInt8)(at_:Nat)(hS:Sat W w (eR r A c bs at_ true 0::L))(hat:at_≤bs.length)(hb:bs.length≤1000000000000)(hR:∀w,Sat W w L→Rd w 1 (.slice A bs.length c) bs.length (bs.map ao)):Calls Tryz.prog 385 #[.pointer (some ⟨r,0,none⟩)] w fun e w'=>(∃(R:jq) (at':Nat),gi (bs.drop at_)=some (R.d,bs.drop at')∧at'≤bs.length∧R.rs.length≤bs.length∧(∀x∈R.rs,x.p.d.vec.length≤16∧x.p.d.ad.length≤bs.length)∧e=.returned (.slice R.a R.rs.length R.c)∧Sat W w' (eR r A c bs (at':Int) true 0::R.ch 206 3 219::L))∨((∀xs rr,gi (bs.drop at_)=some (xs,rr)→df xs=false)∧te (.iface 271 (.agg #[.pointer (some ⟨r,0,none⟩)])) e∧∃at' er:Int,er≠0∧Sat W w' (eR r A c bs at' true er::L)):=by
 refine enter Tryz.func385 rfl rfl rfl (.cons (i:=0) rfl .nil) ?_;refine uC 14 ?_;intro a hA;refine cJ hA rfl uT rfl (eX _ _ _ r A c bs at_ 4 hS (by omega) (by omega) hR (by decide) (by decide)) ?_;rintro e w (⟨v6,at6,hn6,ha6,hk6,rfl,hS'⟩ | ⟨hn6,⟨older,rfl,ho⟩,at',er,hne,hS'⟩)
 ·clear hS;have hS:=hS';clear hS';rw[show (4:Int).toNat=4 from rfl]at hk6;refine .inl ⟨_,rfl,?_⟩;clear hA a;refine uO 4 ?_;intro a hA;refine wp_loop_ghost (fun (mm:Nat) a w=>∃(i:Nat) (rs:List RL) (Ar:Option Addr) (cr at1:Nat),Ag a 20 [(0,.pointer (some ⟨r,0,none⟩)),(3,.slice Ar (rs).length cr),(6,.int .i64 ((v6:Nat):Int)),(7,.int .i64 ((i:Nat):Int))]∧Sat W w (eR r A c bs (at1:Int) true 0::o0 206 Ar cr rs::ek 3 219 rs::L)∧(i≤v6)∧(rs.length=i)∧(at1≤bs.length)∧(dG pq v6 none (bs.drop at6)=(dG pq (v6-i) (rs.map RL.d).getLast? (bs.drop at1)).map fun q=>((rs.map RL.d)++q.1,q.2))∧(∀x∈rs,x.p.d.vec.length≤16∧x.p.d.ad.length≤bs.length)∧mm=v6-i) v6 ?_ ?_
  ·replace hA:=hA.kp [0,3,6,7] rfl;exact⟨0,[],none,0,at6,hA,((hS.jC.bp 206 3).p 2),(by omega),(by rfl),(by omega),(by exact j6),(by intro v hv;cases hv),by omega⟩
  intro m a w hI;clear hS hA;obtain⟨i,rs,Ar,cr,at1,hA,hS,hi,hrl,hat1,hq,hsm,rfl⟩:=hI;refine rC 2 hA ?_;clear hA a;refine ba 0 0 (aA rfl rfl) ?_ ?_
  ·intro h8;refine uO 11 ?_;intro a hA;refine cJ hA rfl zL rfl (jU _ _ _ r A c bs at1 24 hS (by omega) (by omega) (fun w s=>hR w s.drop.drop)) ?_;rintro e w (⟨s10,at10,hn10,ha10,rfl,hS'⟩ | ⟨hn10,⟨older,rfl,ho⟩,at',er,hne,hS'⟩)
   ·clear hS;have hS:=hS';clear hS';refine .inl ⟨_,rfl,?_⟩;clear hA a;refine uO 7 ?_;intro a hA;refine cJ hA rfl Cy rfl (lY _ _ _ r A c bs at10 hS (by omega) hb (fun w s=>hR w s.drop.drop)) ?_;rintro e w (⟨q,at14,hn14,ha14,hqc,rfl,hS'⟩ | ⟨hn14,⟨older,rfl,ho⟩,at',er,hne,hS'⟩)
    ·clear hS;have hS:=hS';clear hS';refine .inl ⟨_,rfl,?_⟩;clear hA a;intro a hA;refine o1 0 hA (ax hA rfl gY) ?_;clear hA a;intro a hA;refine gH (vss:=[[_,_,_]]) hA rfl rfl cW ki rfl rfl rfl (by simp) rfl hS ?_;clear hA a hS;intro A16 w hS;intro a hA;refine eP hA rfl rfl rfl cW ki rfl (hS.p 4) (hS.rd.src cW (by simp[Value.oneCell'])) (by omega) (by omega) ?_;clear hA a hS;intro A17 c17 w hc17 hS;refine uO 5 ?_;refine u1 2 (aj rfl rfl (by omega) (by omega)) ?_;intro a hA;replace hA:=hA.kp [0,3,6,7] rfl;rw[show v6-i=(v6-(i+1))+1 from (by omega)]at hq;have hq2:=jw hq (C3 hn10 hn14);have em:rs.map RL.d++[(⟨str s10,q.d⟩:br)]=(rs++[(⟨str s10,q⟩:RL)]).map RL.d:=by rw[List.map_append];rfl
     have eg:some (⟨str s10,q.d⟩:br)=((rs++[(⟨str s10,q⟩:RL)]).map RL.d).getLast?:=by rw[←em,dQ]
     rw[em,eg]at hq2;have el:rs.length+1=(rs++[(⟨str s10,q⟩:RL)]).length:=by simp
     have hS2:=jK hS el (cs':=(rs++[(⟨str s10,q⟩:RL)]).flatMap j8) (by rw[List.flatMap_append];rfl);have hS3:=hU (str s10) q ((((((hS2.p 1).p 1).p 2).p 5).p 5).p 5);rw[el]at hA;have hqw:=((fQ (by omega)).1 hn14).2.len;refine⟨v6-(i+1),by omega,i+1,rs++[(⟨str s10,q⟩:RL)],A17,c17,at14,hA,(((hS3.p 2).p 2).p 3).drop,by omega,by simp;omega,ha14,hq2,?_,rfl⟩;intro z hz;rcases List.mem_append.1 hz with hz | hz
     ·exact hsm z hz
     ·simp only[List.mem_singleton]at hz;subst hz;exact⟨hqw,hqc⟩
    ·refine .inr ⟨_,rfl,?_⟩;refine rE 5 hA ?_;clear hA a;intro a hA;refine bV hA ?_;clear hS;have hS:=hS';clear hS';refine .inr ⟨dn (pz hn6 (cq (n:=v6-(i+1)) (by rw[hq,show v6-i=(v6-(i+1))+1 from by omega]) (Dd hn10 hn14))),⟨older,rfl,ho⟩,at',er,hne,((hS.p 1).drop.p 1).drop⟩
   ·refine .inr ⟨_,rfl,?_⟩;refine rE 6 hA ?_;clear hA a;intro a hA;refine bV hA ?_;clear hS;have hS:=hS';clear hS';refine .inr ⟨dn (pz hn6 (cq (n:=v6-(i+1)) (by rw[hq,show v6-i=(v6-(i+1))+1 from by omega]) (Dc hn10))),⟨older,rfl,ho⟩,at',er,hne,((hS.p 1).drop.p 1).drop⟩
  ·intro h8;obtain rfl:i=v6:=by omega
   intro a hA;rw[Nat.sub_self]at hq;have hend:=nJ hq;refine rO 16 hA ?_;clear hA a;refine bt ?_;have hS2:Sat W w (o0 206 Ar cr rs::ek 3 219 rs::eR r A c bs (at1:Int) true 0::L):=((hS.p 2).p 2);have hS3:Sat W w ((⟨Ar,cr,rs⟩:jq).ch 206 3 219::eR r A c bs (at1:Int) true 0::L):=nK hS2;exact .inl ⟨⟨Ar,cr,rs⟩,at1,pz hn6 hend,hat1,by show rs.length≤_;omega,hsm,rfl,hS3.p 1⟩
 ·refine .inr ⟨_,rfl,?_⟩;refine rE 2 hA ?_;clear hA a;intro a hA;refine bV hA ?_;clear hS;have hS:=hS';clear hS';refine .inr ⟨?_,⟨older,rfl,ho⟩,at',er,hne,hS⟩;rcases hn6 with h | ⟨k,rr,h,h2⟩
  ·exact dn (BL h)
  ·exact wU h h2
def DW (bs:List UInt8)(b6 b3:Nat)(L:List As)(at' err:Int)(ok:Bool)(M:List As):Prop:=(ok=true∧err=0∧∃(Ae:Option Addr) (ce:Nat) (xs:List aM) (n:Nat),at'=(n:Int)∧gB bs=some (xs,bs.drop n)∧n≤bs.length∧(xs.length * 5≤bs.length)∧M=aS b6 (.cells #[.slice Ae xs.length ce] 59)::aS b3 (.cells #[.func (.func 381) #[] #[]] 452)::fN 216 Ae ce xs::L)∨(ok=false∧err≠0∧(∀xs rr,gB bs=some (xs,rr)→cO xs=false)∧M=aS b6 (.cells #[.slice none 0 0] 59)::aS b3 (.cells #[.func (.func 381) #[] #[]] 452)::L)
theorem uH (W w:World)(L:List As)(r q p b3 b6:Nat)(A:Option Addr)(c:Nat)(bs:List UInt8)(hS:Sat W w (eR r A c bs 0 true 0::fz q r::fe p 0::aS b6 (.cells #[.slice none 0 0] 59)::aS b3 (.cells #[.func (.func 381) #[] #[]] 452)::L))(hb:bs.length≤1000000000000)(hR:Rd W 1 (.slice A bs.length c) bs.length (bs.map ao)):Calls Tryz.prog 393 #[.pointer (some ⟨r,0,none⟩),.pointer (some ⟨b3,0,none⟩),.pointer (some ⟨b6,0,none⟩)] w fun e w'=>∃(at' err:Int) (ok:Bool) (M:List As),wm r ok e∧Sat W w' (eR r A c bs at' true err::fz q r::fe p 0::M)∧DW bs b6 b3 L at' err ok M:=by
 refine enter Tryz.func393 rfl rfl rfl (.cons (i:=0) rfl (.cons (i:=1) rfl (.cons (i:=2) rfl .nil))) ?_;refine uC 1 ?_;refine u1 1 (ld rfl Fg) ?_;intro a hA;refine vZ hA rfl E3 rfl rfl (om _ _ _ r A c bs 0 hS (by omega) hb (fun w h=>hR.sat h)) ?_;rintro e w (⟨Ae,ce,xs,at6,hn6,ha6,hx6,rfl,hS'⟩ | ⟨hn6,⟨older,rfl,ho⟩,at',er,hne,hS'⟩)
 ·clear hS;have hS:=hS';clear hS';refine .inl ⟨_,rfl,?_⟩;clear hA a;intro a hA;refine jQ hA rfl rfl nb Gb rfl (hS.p 4) rfl ?_;clear hS;intro w hS;refine rO 1 hA ?_;clear hA a;intro a hA;refine dP (e:=.ret) ?_;refine fW hA rfl  ?_;exact⟨(at6:Int),0,true,_,.inl ⟨rfl,rfl⟩,((((((hS.p 2).p 5).p 2).p 5).p 5).p 5),.inl ⟨rfl,rfl,Ae,ce,xs,at6,rfl,hn6,ha6,hx6,rfl⟩⟩
 ·refine .inr ⟨_,rfl,?_⟩;refine bV hA ?_;clear hS;have hS:=hS';clear hS';exact⟨at',er,false,_,.inr ⟨rfl,.inl ⟨older,rfl,ho⟩⟩,hS,.inr ⟨rfl,hne,hn6,rfl⟩⟩
def DU (bs:List UInt8)(b6 b3:Nat)(L:List As)(at' err:Int)(ok:Bool)(M:List As):Prop:=(ok=true∧err=0∧∃(z:PL) (n:Nat),at'=(n:Int)∧dC bs=some (z.d,bs.drop n)∧n≤bs.length∧(z.d.ad.length≤bs.length)∧M=aS b6 (.cells #[.slice z.va z.d.vec.length z.vc,.slice z.ca z.d.ad.length z.cc] 63)::aS b3 (.cells #[.func (.func 383) #[] #[]] 455)::ej 3 z.va z.vc z.d.vec::bG 219 z.ca z.cc z.d.ad::L)∨(ok=false∧err≠0∧(dC bs=none)∧M=aS b6 (.cells #[.slice none 0 0,.slice none 0 0] 63)::aS b3 (.cells #[.func (.func 383) #[] #[]] 455)::L)
theorem uq (W w:World)(L:List As)(r q p b3 b6:Nat)(A:Option Addr)(c:Nat)(bs:List UInt8)(hS:Sat W w (eR r A c bs 0 true 0::fz q r::fe p 0::aS b6 (.cells #[.slice none 0 0,.slice none 0 0] 63)::aS b3 (.cells #[.func (.func 383) #[] #[]] 455)::L))(hb:bs.length≤1000000000000)(hR:Rd W 1 (.slice A bs.length c) bs.length (bs.map ao)):Calls Tryz.prog 395 #[.pointer (some ⟨r,0,none⟩),.pointer (some ⟨b3,0,none⟩),.pointer (some ⟨b6,0,none⟩)] w fun e w'=>∃(at' err:Int) (ok:Bool) (M:List As),wm r ok e∧Sat W w' (eR r A c bs at' true err::fz q r::fe p 0::M)∧DU bs b6 b3 L at' err ok M:=by
 refine enter Tryz.func395 rfl rfl rfl (.cons (i:=0) rfl (.cons (i:=1) rfl (.cons (i:=2) rfl .nil))) ?_;refine uC 1 ?_;refine u1 1 (ld rfl D8) ?_;intro a hA;refine vZ hA rfl Cy rfl rfl (lY _ _ _ r A c bs 0 hS (by omega) hb (fun w h=>hR.sat h)) ?_;rintro e w (⟨z,at6,hn6,ha6,hx6,rfl,hS'⟩ | ⟨hn6,⟨older,rfl,ho⟩,at',er,hne,hS'⟩)
 ·clear hS;have hS:=hS';clear hS';refine .inl ⟨_,rfl,?_⟩;clear hA a;intro a hA;refine Fy hA (vs:=[_,_]) rfl rfl aC (by simp[Value.oneCell']) (hS.p 5) (by simp) ?_;clear hS;intro w hS;refine rO 1 hA ?_;clear hA a;intro a hA;refine dP (e:=.ret) ?_;refine fW hA rfl  ?_;exact⟨(at6:Int),0,true,_,.inl ⟨rfl,rfl⟩,(((((((hS.p 3).p 3).p 6).p 3).p 6).p 6).p 6),.inl ⟨rfl,rfl,z,at6,rfl,hn6,ha6,hx6,rfl⟩⟩
 ·refine .inr ⟨_,rfl,?_⟩;refine bV hA ?_;clear hS;have hS:=hS';clear hS';exact⟨at',er,false,_,.inr ⟨rfl,.inl ⟨older,rfl,ho⟩⟩,hS,.inr ⟨rfl,hne,hn6,rfl⟩⟩
def DS (bs:List UInt8)(b6 b3:Nat)(L:List As)(at' err:Int)(ok:Bool)(M:List As):Prop:=(ok=true∧err=0∧∃(R:jq) (n:Nat),at'=(n:Int)∧gi bs=some (R.d,bs.drop n)∧n≤bs.length∧(R.rs.length≤bs.length∧(∀x∈R.rs,x.p.d.vec.length≤16∧x.p.d.ad.length≤bs.length))∧M=aS b6 (.cells #[.slice R.a R.rs.length R.c] 64)::aS b3 (.cells #[.func (.func 385) #[] #[]] 458)::R.ch 206 3 219::L)∨(ok=false∧err≠0∧(∀xs rr,gi bs=some (xs,rr)→df xs=false)∧M=aS b6 (.cells #[.slice none 0 0] 64)::aS b3 (.cells #[.func (.func 385) #[] #[]] 458)::L)
theorem vD (W w:World)(L:List As)(r q p b3 b6:Nat)(A:Option Addr)(c:Nat)(bs:List UInt8)(hS:Sat W w (eR r A c bs 0 true 0::fz q r::fe p 0::aS b6 (.cells #[.slice none 0 0] 64)::aS b3 (.cells #[.func (.func 385) #[] #[]] 458)::L))(hb:bs.length≤1000000000000)(hR:Rd W 1 (.slice A bs.length c) bs.length (bs.map ao)):Calls Tryz.prog 396 #[.pointer (some ⟨r,0,none⟩),.pointer (some ⟨b3,0,none⟩),.pointer (some ⟨b6,0,none⟩)] w fun e w'=>∃(at' err:Int) (ok:Bool) (M:List As),wm r ok e∧Sat W w' (eR r A c bs at' true err::fz q r::fe p 0::M)∧DS bs b6 b3 L at' err ok M:=by
 refine enter Tryz.func396 rfl rfl rfl (.cons (i:=0) rfl (.cons (i:=1) rfl (.cons (i:=2) rfl .nil))) ?_;refine uC 1 ?_;refine u1 1 (ld rfl EA) ?_;intro a hA;refine vZ hA rfl Eb rfl rfl (oJ _ _ _ r A c bs 0 hS (by omega) hb (fun w h=>hR.sat h)) ?_;rintro e w (⟨R,at6,hn6,ha6,hx6,hx7,rfl,hS'⟩ | ⟨hn6,⟨older,rfl,ho⟩,at',er,hne,hS'⟩)
 ·clear hS;have hS:=hS';clear hS';refine .inl ⟨_,rfl,?_⟩;clear hA a;intro a hA;refine jQ hA rfl rfl nU Ge rfl (hS.p 4) rfl ?_;clear hS;intro w hS;refine rO 1 hA ?_;clear hA a;intro a hA;refine dP (e:=.ret) ?_;refine fW hA rfl  ?_;exact⟨(at6:Int),0,true,_,.inl ⟨rfl,rfl⟩,((((((hS.p 2).p 5).p 2).p 5).p 5).p 5),.inl ⟨rfl,rfl,R,at6,rfl,hn6,ha6,⟨hx6,hx7⟩,rfl⟩⟩
 ·refine .inr ⟨_,rfl,?_⟩;refine bV hA ?_;clear hS;have hS:=hS';clear hS';exact⟨at',er,false,_,.inr ⟨rfl,.inl ⟨older,rfl,ho⟩⟩,hS,.inr ⟨rfl,hne,hn6,rfl⟩⟩
theorem vW (W:World)(A:Option Addr)(c:Nat)(bs:List UInt8)(hb:bs.length≤1000000000000)(hR:Rd W 1 (.slice A bs.length c) bs.length (bs.map ao)):Calls Tryz.prog 380 #[.slice A (bs).length c,.func (.func 381) #[] #[]] W fun e w'=>(∃(Ae:Option Addr) (ce:Nat) (xs:List aM),gB bs=some (xs,[])∧(xs.length * 5≤bs.length)∧e=.returned (.tuple #[.slice Ae xs.length ce,.bool true])∧Sat W w' [fN 216 Ae ce xs])∨((∀xs,gB bs=some (xs,[])→cO xs=false)∧∃v,e=.returned (.tuple #[v,.bool false])∧Sat W w' []):=by
 refine enter Tryz.func380 rfl rfl rfl (.cons (i:=0) rfl (.cons (i:=1) rfl .nil)) ?_;have hS:=Sat.start W;refine uC 2 ?_;refine uB rfl hS ?_;clear hS;intro b3 w hS;refine uO 6 ?_;refine uN Gg hS ?_;clear hS;intro b6 w hS;refine uO 5 ?_;intro a hA;refine o1 0 hA (nV (hA.jN rfl)) ?_;clear hA a;refine uF yu rfl (fT _ _ _ A c bs (fun _ at' err ok M=>DW bs b6 b3 [] at' err ok M) 393 [.pointer (some ⟨b3,0,none⟩),.pointer (some ⟨b6,0,none⟩)] (hS) (by omega) DZ (fun w r q p hS=>(uH _ _ _ r q p b3 b6 A c bs hS hb hR))) ?_;rintro e w ⟨r0,q0,p0,at',err,ok,M,rfl,hS,(⟨rfl,rfl,Ae,ce,xs,at6,rfl,hn6,ha6,hx6,rfl⟩ | ⟨rfl,hne,hn6,rfl⟩)⟩
 ·replace hS:=hS.drop.drop.drop;refine⟨_,rfl,?_⟩;refine uO 5 ?_;refine u1 1 (ld rfl nb) ?_;refine u1 5 (bN rfl rfl) ?_;refine gT ?_;rw[show decide (mF true 0 (at6:Int) bs.length=0)=decide (bs.length≤at6) from by rw[decide_eq_decide,jg rfl];(simp;done)]
  by_cases hle:bs.length≤at6
  ·rw[List.drop_of_length_le hle]at hn6;rw[decide_eq_true hle];exact .inl ⟨Ae,ce,xs,hn6,hx6,rfl,Sat.cA (M:=[_]) (hS.p 2) _⟩
  ·rw[decide_eq_false hle];refine .inr ⟨?_,_,rfl,hS.nil⟩;intro d h;rw[hn6]at h
   injection h with h
   have h2:=congrArg List.length (Prod.mk.inj h).2;rw[List.length_drop]at h2;simp at h2;omega
 ·replace hS:=hS.drop.drop.drop;refine⟨_,rfl,?_⟩;refine uO 5 ?_;refine u1 1 (ld rfl nb) ?_;refine u1 5 (bN rfl rfl) ?_;refine gT ?_;rw[show decide (mF false err at' bs.length=0)=false from by rw[decide_eq_false];rw[ig rfl,if_pos hne];exact hne];exact .inr ⟨fun xs h=>hn6 xs [] h,_,rfl,hS.nil⟩
theorem wY (W:World)(A:Option Addr)(c:Nat)(bs:List UInt8)(hb:bs.length≤1000000000000)(hR:Rd W 1 (.slice A bs.length c) bs.length (bs.map ao)):Calls Tryz.prog 382 #[.slice A (bs).length c,.func (.func 383) #[] #[]] W fun e w'=>(∃(z:PL),dC bs=some (z.d,[])∧(z.d.ad.length≤bs.length)∧e=.returned (.tuple #[.agg #[.slice z.va z.d.vec.length z.vc,.slice z.ca z.d.ad.length z.cc],.bool true])∧Sat W w' [ej 3 z.va z.vc z.d.vec,bG 219 z.ca z.cc z.d.ad])∨((∀d,dC bs=some (d,[])→bK d=false)∧∃z:PL,e=.returned (.tuple #[.agg #[.slice z.va z.d.vec.length z.vc,.slice z.ca z.d.ad.length z.cc],.bool false])∧Sat W w' []):=by
 refine enter Tryz.func382 rfl rfl rfl (.cons (i:=0) rfl (.cons (i:=1) rfl .nil)) ?_;have hS:=Sat.start W;refine uC 2 ?_;refine uB rfl hS ?_;clear hS;intro b3 w hS;refine uN db hS ?_;clear hS;intro b4 w hS;refine uO 5 ?_;refine uN db hS ?_;clear hS;intro b6 w hS;refine uO 5 ?_;intro a hA;refine o1 0 hA (nV (hA.jN rfl)) ?_;clear hA a;refine uF yu rfl (fT _ _ _ A c bs (fun _ at' err ok M=>DU bs b6 b3 [aS b4 (.cells #[.slice none 0 0,.slice none 0 0] 63)] at' err ok M) 395 [.pointer (some ⟨b3,0,none⟩),.pointer (some ⟨b6,0,none⟩)] ((((hS.p 1).p 2).p 2)) (by omega) EW (fun w r q p hS=>(uq _ _ _ r q p b3 b6 A c bs hS hb hR))) ?_;rintro e w ⟨r0,q0,p0,at',err,ok,M,rfl,hS,(⟨rfl,rfl,z,at6,rfl,hn6,ha6,hx6,rfl⟩ | ⟨rfl,hne,hn6,rfl⟩)⟩
 ·replace hS:=hS.drop.drop.drop;refine⟨_,rfl,?_⟩;refine uO 5 ?_;refine u1 1 (ag (cs:=[_,_]) rfl bj aC (by exact hS.ab (xs:=[_,_]) rfl)) ?_;refine u1 0 (bN rfl rfl) ?_;refine uW (vs:=[_,_]) (cs':=[_,_]) rfl rfl aC (hS.p 4) ?_;clear hS;intro w hS;refine uO 4 ?_;intro a hA;refine cY hA rfl (cy (cs:=[_,_]) hA rfl bj aC (by exact hS.ab (xs:=[_,_]) rfl)) (cf hA rfl) ?_;rw[show decide (mF true 0 (at6:Int) bs.length=0)=decide (bs.length≤at6) from by rw[decide_eq_decide,jg rfl];(simp;done)]
  by_cases hle:bs.length≤at6
  ·rw[List.drop_of_length_le hle]at hn6;rw[decide_eq_true hle];exact .inl ⟨z,hn6,hx6,rfl,Sat.cA (M:=[_,_]) ((hS.p 4).p 4) _⟩
  ·rw[decide_eq_false hle];refine .inr ⟨?_,z,rfl,hS.nil⟩;intro d h;rw[hn6]at h
   injection h with h
   have h2:=congrArg List.length (Prod.mk.inj h).2;rw[List.length_drop]at h2;simp at h2;omega
 ·replace hS:=hS.drop.drop.drop;refine⟨_,rfl,?_⟩;refine uO 5 ?_;refine u1 1 (ag (cs:=[_,_]) rfl bj aC (by exact hS.ab (xs:=[_,_]) rfl)) ?_;refine u1 0 (bN rfl rfl) ?_;refine uW (vs:=[_,_]) (cs':=[_,_]) rfl rfl aC (hS.p 2) ?_;clear hS;intro w hS;refine uO 4 ?_;intro a hA;refine cY hA rfl (cy (cs:=[_,_]) hA rfl bj aC (by exact hS.ab (xs:=[_,_]) rfl)) (cf hA rfl) ?_;rw[show decide (mF false err at' bs.length=0)=false from by rw[decide_eq_false];rw[ig rfl,if_pos hne];exact hne];exact .inr ⟨fun d h=>(by rw[hn6]at h;cases h),⟨none,0,none,0,⟨[],[]⟩⟩,rfl,hS.nil⟩
theorem wI (W:World)(A:Option Addr)(c:Nat)(bs:List UInt8)(hb:bs.length≤1000000000000)(hR:Rd W 1 (.slice A bs.length c) bs.length (bs.map ao)):Calls Tryz.prog 384 #[.slice A (bs).length c,.func (.func 385) #[] #[]] W fun e w'=>(∃(R:jq),gi bs=some (R.d,[])∧(R.rs.length≤bs.length∧(∀x∈R.rs,x.p.d.vec.length≤16∧x.p.d.ad.length≤bs.length))∧e=.returned (.tuple #[.slice R.a R.rs.length R.c,.bool true])∧Sat W w' [R.ch 206 3 219])∨((∀xs,gi bs=some (xs,[])→df xs=false)∧∃v,e=.returned (.tuple #[v,.bool false])∧Sat W w' []):=by
 refine enter Tryz.func384 rfl rfl rfl (.cons (i:=0) rfl (.cons (i:=1) rfl .nil)) ?_;have hS:=Sat.start W;refine uC 2 ?_;refine uB rfl hS ?_;clear hS;intro b3 w hS;refine uO 6 ?_;refine uN F9 hS ?_;clear hS;intro b6 w hS;refine uO 5 ?_;intro a hA;refine o1 0 hA (nV (hA.jN rfl)) ?_;clear hA a;refine uF yu rfl (fT _ _ _ A c bs (fun _ at' err ok M=>DS bs b6 b3 [] at' err ok M) 396 [.pointer (some ⟨b3,0,none⟩),.pointer (some ⟨b6,0,none⟩)] (hS) (by omega) FV (fun w r q p hS=>(vD _ _ _ r q p b3 b6 A c bs hS hb hR))) ?_;rintro e w ⟨r0,q0,p0,at',err,ok,M,rfl,hS,(⟨rfl,rfl,R,at6,rfl,hn6,ha6,hx6,rfl⟩ | ⟨rfl,hne,hn6,rfl⟩)⟩
 ·replace hS:=hS.drop.drop.drop;refine⟨_,rfl,?_⟩;refine uO 5 ?_;refine u1 1 (ld rfl nU) ?_;refine u1 5 (bN rfl rfl) ?_;refine gT ?_;rw[show decide (mF true 0 (at6:Int) bs.length=0)=decide (bs.length≤at6) from by rw[decide_eq_decide,jg rfl];(simp;done)]
  by_cases hle:bs.length≤at6
  ·rw[List.drop_of_length_le hle]at hn6;rw[decide_eq_true hle];exact .inl ⟨R,hn6,hx6,rfl,Sat.cA (M:=[_]) (hS.p 2) _⟩
  ·rw[decide_eq_false hle];refine .inr ⟨?_,_,rfl,hS.nil⟩;intro d h;rw[hn6]at h
   injection h with h
   have h2:=congrArg List.length (Prod.mk.inj h).2;rw[List.length_drop]at h2;simp at h2;omega
 ·replace hS:=hS.drop.drop.drop;refine⟨_,rfl,?_⟩;refine uO 5 ?_;refine u1 1 (ld rfl nU) ?_;refine u1 5 (bN rfl rfl) ?_;refine gT ?_;rw[show decide (mF false err at' bs.length=0)=false from by rw[decide_eq_false];rw[ig rfl,if_pos hne];exact hne];exact .inr ⟨fun xs h=>hn6 xs [] h,_,rfl,hS.nil⟩
theorem oS (W:World)(A:Option Addr)(c:Nat)(bs:List UInt8)(hb:bs.length≤16777216)(hR:Rd W 1 (.slice A bs.length c) bs.length (bs.map ao)):Calls Tryz.prog 365 #[.slice A (bs).length c] W fun e w'=>(∃(Ae:Option Addr) (ce:Nat) (xs:List aM),gB bs=some (xs,[])∧cO xs=true∧(xs.length * 5≤bs.length)∧e=.returned (.tuple #[.slice Ae xs.length ce,.int .i64 0])∧Sat W w' [fN 216 Ae ce xs])∨((∀xs,gB bs=some (xs,[])→cO xs=false)∧e=.returned (.tuple #[.slice none 0 0,.int .i64 8])∧Sat W w' []):=by
 refine enter Tryz.func365 rfl rfl rfl (.cons (i:=0) rfl .nil) ?_;have hS:=Sat.start W;refine uC 9 ?_;refine uF DP rfl (vW _ A c bs (by omega) (hR.sat hS)) ?_;rintro e w (⟨Ae,ce,xs,hq,hbd,rfl,hT⟩ | ⟨hno,v,rfl,hT⟩)
 ·replace hS:=hS.ay hT;clear hT;refine⟨_,rfl,?_⟩;refine uO 1 ?_;refine u1 0 (ak rfl rfl) ?_;refine lv 0 0 (ak rfl rfl) ?_ ?_
  ·intro h10;intro a hA;simp only[decide_eq_decide,decide_eq_true_eq,decide_eq_false_iff_not,Bool.not_eq_true',Bool.not_eq_false',bne_iff_ne,ne_eq,beq_iff_eq,Bool.not_eq_true,Bool.not_eq_false]at h10;refine rO 8 hA ?_;clear hA a;refine u1 2 (aR rfl) ?_;intro a hA;refine eZ hA (ar hA rfl rfl rfl) rfl sl rfl (eJ _ Ae ce xs hS.rd (by omega)) ?_;clear hA a;rintro e w ⟨rfl,hT⟩;replace hS:Sat _ _ _:=hS.ah hT;clear hT;refine⟨_,rfl,?_⟩;refine ba 0 0 (aD rfl rfl) ?_ ?_
   ·intro h16;refine uO 12 ?_;refine gT ?_;have hg:cO xs=false:=by simpa[jq.d]using h16
    refine .inr ⟨?_,rfl,hS.nil⟩;intro d h;rw[hq]at h;cases h;exact hg
   ·intro h16;refine uO 14 ?_;refine gT ?_;have hg:cO xs=true:=by simpa[jq.d]using h16
    exact .inl ⟨Ae,ce,xs,hq,hg,hbd,rfl,jv hS⟩
  ·intro h10;intro a hA;contradiction
 ·replace hS:Sat _ _ _:=hS.ah hT;clear hT;refine⟨_,rfl,?_⟩;refine uO 1 ?_;refine u1 0 (ak rfl rfl) ?_;refine lv 0 0 (ak rfl rfl) ?_ ?_
  ·intro h10;intro a hA;contradiction
  ·intro h10;intro a hA;simp only[decide_eq_decide,decide_eq_true_eq,decide_eq_false_iff_not,Bool.not_eq_true',Bool.not_eq_false',bne_iff_ne,ne_eq,beq_iff_eq,Bool.not_eq_true,Bool.not_eq_false]at h10;refine rO 8 hA ?_;clear hA a;refine u1 16 (aR rfl) ?_;refine gT ?_;exact .inr ⟨hno,rfl,hS.nil⟩
theorem ma (W:World)(A:Option Addr)(c:Nat)(bs:List UInt8)(hb:bs.length≤16777216)(hR:Rd W 1 (.slice A bs.length c) bs.length (bs.map ao)):Calls Tryz.prog 366 #[.slice A (bs).length c] W fun e w'=>(∃(z:PL),dC bs=some (z.d,[])∧bK z.d=true∧(z.d.ad.length≤bs.length)∧e=.returned (.tuple #[.agg #[.slice z.va z.d.vec.length z.vc,.slice z.ca z.d.ad.length z.cc],.int .i64 0])∧Sat W w' [ej 3 z.va z.vc z.d.vec,bG 219 z.ca z.cc z.d.ad])∨((∀d,dC bs=some (d,[])→bK d=false)∧e=.returned (.tuple #[.agg #[.slice none 0 0,.slice none 0 0],.int .i64 8])∧Sat W w' []):=by
 refine enter Tryz.func366 rfl rfl rfl (.cons (i:=0) rfl .nil) ?_;have hS:=Sat.start W;refine uC 2 ?_;refine uN db hS ?_;clear hS;intro b2 w hS;refine uO 6 ?_;refine uF EY rfl (wY _ A c bs (by omega) (hR.sat hS)) ?_;rintro e w (⟨z,hq,hbd,rfl,hT⟩ | ⟨hno,z,rfl,hT⟩)
 ·replace hS:Sat _ _ (_::_::_):=hS.ah hT;clear hT;have hzv:=((fQ (by omega)).1 hq).2.len;refine⟨_,rfl,?_⟩;refine uO 1 ?_;refine u1 0 (ak rfl rfl) ?_;refine lv 0 0 (ak rfl rfl) ?_ ?_
  ·intro h10;intro a hA;simp only[decide_eq_decide,decide_eq_true_eq,decide_eq_false_iff_not,Bool.not_eq_true',Bool.not_eq_false',bne_iff_ne,ne_eq,beq_iff_eq,Bool.not_eq_true,Bool.not_eq_false]at h10;refine goN hA rfl db hS ?_;clear hA a hS;intro b4 w hS;refine uW (vs:=[_,_]) (cs':=[_,_]) rfl rfl aC hS ?_;clear hS;intro w hS;refine uO 7 ?_;refine u1 1 (aR rfl) ?_;refine u1 0 (ag (cs:=[_,_]) rfl bj aC (by exact hS.ab (xs:=[_,_]) rfl)) ?_;intro a hA;refine eZ hA (ar hA rfl rfl rfl) rfl re rfl (dJ _ z ⟨(hS.p 1).rd,(hS.p 2).rd⟩ (by omega) (by omega)) ?_;clear hA a;rintro e w ⟨rfl,hT⟩;replace hS:Sat _ _ _:=hS.ah hT;clear hT;generalize h15:(bK z.d)=bb;cases bb
   ·refine⟨_,rfl,?_⟩;refine u1 6 (aR rfl) ?_;intro a hA;refine o1 0 hA (ax hA rfl xj) ?_;clear hA a;refine uW (vs:=[_,_]) (cs':=[_,_]) rfl rfl aC (hS.p 3) ?_;clear hS;intro w hS;refine uO 5 ?_;intro a hA;refine cY hA rfl (cy (cs:=[_,_]) hA rfl bj aC (by exact hS.ab (xs:=[_,_]) rfl)) (cf hA rfl) ?_;have hg:bK z.d=false:=h15;refine .inr ⟨?_,rfl,hS.nil⟩;intro d h;rw[hq]at h;cases h;exact hg
   ·refine⟨_,rfl,?_⟩;refine u1 8 (aR rfl) ?_;refine u1 0 (ag (cs:=[_,_]) rfl bj aC (by exact hS.ab (xs:=[_,_]) rfl)) ?_;refine uW (vs:=[_,_]) (cs':=[_,_]) rfl rfl aC (hS.p 3) ?_;clear hS;intro w hS;refine uO 4 ?_;intro a hA;refine cY hA rfl (cy (cs:=[_,_]) hA rfl bj aC (by exact hS.ab (xs:=[_,_]) rfl)) (cf hA rfl) ?_;have hg:bK z.d=true:=h15;exact .inl ⟨z,hq,hg,hbd,rfl,rH ((hS.p 3).p 3)⟩
  ·intro h10;intro a hA;contradiction
 ·replace hS:Sat _ _ _:=hS.ah hT;clear hT;refine⟨_,rfl,?_⟩;refine uO 1 ?_;refine u1 0 (ak rfl rfl) ?_;refine lv 0 0 (ak rfl rfl) ?_ ?_
  ·intro h10;intro a hA;contradiction
  ·intro h10;intro a hA;simp only[decide_eq_decide,decide_eq_true_eq,decide_eq_false_iff_not,Bool.not_eq_true',Bool.not_eq_false',bne_iff_ne,ne_eq,beq_iff_eq,Bool.not_eq_true,Bool.not_eq_false]at h10;refine goN hA rfl db hS ?_;clear hA a hS;intro b4 w hS;refine uW (vs:=[_,_]) (cs':=[_,_]) rfl rfl aC hS ?_;clear hS;intro w hS;refine uO 7 ?_;refine u1 10 (aR rfl) ?_;intro a hA;refine o1 0 hA (ax hA rfl xj) ?_;clear hA a;refine uW (vs:=[_,_]) (cs':=[_,_]) rfl rfl aC (hS.p 1) ?_;clear hS;intro w hS;refine uO 5 ?_;intro a hA;refine cY hA rfl (cy (cs:=[_,_]) hA rfl bj aC (by exact hS.ab (xs:=[_,_]) rfl)) (cf hA rfl) ?_;exact .inr ⟨hno,rfl,hS.nil⟩
theorem eC (W:World)(A:Option Addr)(c:Nat)(bs:List UInt8)(hb:bs.length≤16777216)(hR:Rd W 1 (.slice A bs.length c) bs.length (bs.map ao)):Calls Tryz.prog 367 #[.slice A (bs).length c] W fun e w'=>(∃(R:jq),gi bs=some (R.d,[])∧df R.d=true∧(R.rs.length≤bs.length∧(∀x∈R.rs,x.p.d.vec.length≤16∧x.p.d.ad.length≤bs.length))∧e=.returned (.tuple #[.slice R.a R.rs.length R.c,.int .i64 0])∧Sat W w' [R.ch 206 3 219])∨((∀xs,gi bs=some (xs,[])→df xs=false)∧e=.returned (.tuple #[.slice none 0 0,.int .i64 8])∧Sat W w' []):=by
 refine enter Tryz.func367 rfl rfl rfl (.cons (i:=0) rfl .nil) ?_;have hS:=Sat.start W;refine uC 9 ?_;refine uF Fh rfl (wI _ A c bs (by omega) (hR.sat hS)) ?_;rintro e w (⟨R,hq,hbd,rfl,hT⟩ | ⟨hno,v,rfl,hT⟩)
 ·replace hS:=hS.ay hT;clear hT;have hrl:=hbd.1;refine⟨_,rfl,?_⟩;refine uO 1 ?_;refine u1 0 (ak rfl rfl) ?_;refine lv 0 0 (ak rfl rfl) ?_ ?_
  ·intro h10;intro a hA;simp only[decide_eq_decide,decide_eq_true_eq,decide_eq_false_iff_not,Bool.not_eq_true',Bool.not_eq_false',bne_iff_ne,ne_eq,beq_iff_eq,Bool.not_eq_true,Bool.not_eq_false]at h10;refine rO 8 hA ?_;clear hA a;refine u1 2 (aR rfl) ?_;intro a hA;refine eZ hA (ar hA rfl rfl rfl) rfl qc rfl (dM _ R.a R.c R.rs (jq.qR hS).top (jq.qR hS).each (fun r hr=>by have:=hbd.2 r hr;omega) (by omega)) ?_;clear hA a;rintro e w ⟨rfl,hT⟩;replace hS:Sat _ _ _:=hS.ah hT;clear hT;refine⟨_,rfl,?_⟩;refine ba 0 0 (aD rfl rfl) ?_ ?_
   ·intro h16;refine uO 12 ?_;refine gT ?_;have hg:df R.d=false:=by simpa[jq.d]using h16
    refine .inr ⟨?_,rfl,hS.nil⟩;intro d h;rw[hq]at h;cases h;exact hg
   ·intro h16;refine uO 14 ?_;refine gT ?_;have hg:df R.d=true:=by simpa[jq.d]using h16
    exact .inl ⟨R,hq,hg,hbd,rfl,jv hS⟩
  ·intro h10;intro a hA;contradiction
 ·replace hS:Sat _ _ _:=hS.ah hT;clear hT;refine⟨_,rfl,?_⟩;refine uO 1 ?_;refine u1 0 (ak rfl rfl) ?_;refine lv 0 0 (ak rfl rfl) ?_ ?_
  ·intro h10;intro a hA;contradiction
  ·intro h10;intro a hA;simp only[decide_eq_decide,decide_eq_true_eq,decide_eq_false_iff_not,Bool.not_eq_true',Bool.not_eq_false',bne_iff_ne,ne_eq,beq_iff_eq,Bool.not_eq_true,Bool.not_eq_false]at h10;refine rO 8 hA ?_;clear hA a;refine u1 16 (aR rfl) ?_;refine gT ?_;exact .inr ⟨hno,rfl,hS.nil⟩
end Go.Proofs.YtkjabaihpkbfhaaGreat.Wk
namespace Go.Proofs.YtkjabaihpkbfhaaGreat.K
open Go Go.RowKit
variable {P:Program} {a:Act} {n:Nat} {E:Env} {w:World}
theorem D6 {f:ResultVar→Sem Value}{r s u t:ResultVar}{v x z y:Value}(h1:(f r).run P w=.ok v w)(h2:(f s).run P w=.ok x w)(h3:(f u).run P w=.ok z w)(h4:(f t).run P w=.ok y w):((#[r,s,u,t]:Array ResultVar).mapM f).run P w=.ok #[v,x,z,y] w:=by
 simp[go_sem,h1,h2,h3,h4]
theorem lV {fn:Func}{R:Ending→World→Prop}{r s u t:ResultVar}{v x z y:Value}(hA:Ag a n E)(hr:fn.results=#[r,s,u,t])(hv:jI P w a.tmps r v)(hx:jI P w a.tmps s x)(hz:jI P w a.tmps u z)(hy:jI P w a.tmps t y)(h:R (.returned (.tuple #[v,x,z,y])) w):bodyPost P fn R .ret a w:=
 ⟨hA.defers,.tuple #[v,x,z,y],by rw[jV,hr,Sem.run_bind',D6 hv hx hz hy];rfl,h⟩
end Go.Proofs.YtkjabaihpkbfhaaGreat.K
namespace Go.Proofs.YtkjabaihpkbfhaaGreat.Wk
open Go Go.RowKit Go.Proofs.YtkjabaihpkbfhaaGreat Go.Proofs.YtkjabaihpkbfhaaGreat.K
def oO (k:Nat)(f:gP→Bool)(b:List UInt8):Prop:=∀d:gP,f d=true→b≠dx k d
theorem ib {xs:List aM}(h:cO xs=true)(hl:xs.length≤9223372036854775807):gB (cu xs)=some (xs,[]):=sC.2 ⟨by simp,lR h,hl⟩
theorem lH {p:aB}(h:bK p=true)(hl:p.ad.length≤9223372036854775807):dC (cE p)=some (p,[]):=(fQ hl).2 ⟨by simp,(gu.1 h).tozf⟩
theorem BG {rs:List br}(h:∀r∈rs,jJ r=true)(hl:∀r∈rs,r.a8.ad.length≤9223372036854775807):gv AQ none rs:=by
 have:∀(l:List br) (p:Option br),(∀r∈l,jJ r=true)→(∀r∈l,r.a8.ad.length≤9223372036854775807)→gv AQ p l:=by
  intro l
  induction l with
  | nil=>intro p _ _;trivial
  | cons x l ih =>
    intro p h1 h2;have h3:=oF (h1 x (by simp));exact⟨⟨h3.1,h3.2.tozf,h2 x (by simp)⟩,ih _ (fun r hr=>h1 r (by simp[hr])) (fun r hr=>h2 r (by simp[hr]))⟩
 exact this rs none h hl
theorem ov {rs:List br}(h:df rs=true)(hl:(bM rs).length≤9223372036854775807):gi (bM rs)=some (rs,[]):=by
 have hs:=u5 rs;have hn:=nQ (rs.map br.a8);rw[List.length_map]at hn;refine oq.2 ⟨by simp,BG (fX h) (fun r hr=>?_),by omega⟩;have:=pM (List.mem_map.2 ⟨r,hr,rfl⟩:r.a8∈rs.map br.a8);omega
theorem i6 {k:Nat}{d:gP}(hk:k≤2)(hL:(dx k d).length≤9223372036854775807):∃r0 r1 r2:List UInt8,a6 2 (dx k d)=some (k,r0)∧bX 9223372036854775807 r0=some (cu d.jd,r1)∧bX 9223372036854775807 r1=some (cE d.a8,r2)∧bX 9223372036854775807 r2=some (bM d.ky,[]):=by
 unfold dx fr at hL ⊢;simp only[List.length_append]at hL;exact⟨_,_,_,aU.2 ⟨rfl,by omega,by omega⟩,dh.2 ⟨rfl,by omega,by omega⟩,dh.2 ⟨rfl,by omega,by omega⟩,dh.2 ⟨by simp,by omega,by omega⟩⟩
section
variable {k:Nat} {f:gP→Bool} {b:List UInt8}
theorem GL (hk:k≤2)(hL:b.length≤9223372036854775807)(h:a6 2 b=none):oO k f b:=fun d _ e=>by
 subst e;obtain⟨r0,r1,r2,h0,_⟩:=i6 hk hL;rw[h0]at h;cases h
theorem GV (hk:k≤2)(hL:b.length≤9223372036854775807){v:Nat}{r0:List UInt8}(h0:a6 2 b=some (v,r0))(h:(v:Int)≠(k:Int)):oO k f b:=fun d _ e=>by
 subst e;obtain⟨s0,r1,r2,g0,_⟩:=i6 hk hL;rw[g0]at h0;cases h0;exact h rfl
theorem GP (hk:k≤2)(hL:b.length≤9223372036854775807){v:Nat}{r0:List UInt8}(h0:a6 2 b=some (v,r0))(h:bX 9223372036854775807 r0=none):oO k f b:=fun d _ e=>by
 subst e;obtain⟨s0,r1,r2,g0,g1,_⟩:=i6 hk hL;rw[g0]at h0;cases h0;rw[g1]at h;cases h
theorem GS (hk:k≤2)(hL:b.length≤9223372036854775807){v:Nat}{r0 r1 f0:List UInt8}(h0:a6 2 b=some (v,r0))(h1:bX 9223372036854775807 r0=some (f0,r1))(h:bX 9223372036854775807 r1=none):oO k f b:=fun d _ e=>by
 subst e;obtain⟨s0,s1,r2,g0,g1,g2,_⟩:=i6 hk hL;rw[g0]at h0;cases h0;rw[g1]at h1;cases h1;rw[g2]at h;cases h
theorem GU (hk:k≤2)(hL:b.length≤9223372036854775807){v:Nat}{r0 r1 r2 f0 f1:List UInt8}(h0:a6 2 b=some (v,r0))(h1:bX 9223372036854775807 r0=some (f0,r1))(h2:bX 9223372036854775807 r1=some (f1,r2))(h:bX 9223372036854775807 r2=none):oO k f b:=fun d _ e=>by
 subst e;obtain⟨s0,s1,s2,g0,g1,g2,g3⟩:=i6 hk hL;rw[g0]at h0;cases h0;rw[g1]at h1;cases h1;rw[g2]at h2;cases h2;rw[g3]at h;cases h
theorem CR (hk:k≤2)(hL:b.length≤9223372036854775807){v:Nat}{r0 r1 r2 r3 f0 f1 f2:List UInt8}(h0:a6 2 b=some (v,r0))(h1:bX 9223372036854775807 r0=some (f0,r1))(h2:bX 9223372036854775807 r1=some (f1,r2))(h3:bX 9223372036854775807 r2=some (f2,r3))
 (hf:∀d,f d=true→r3=[]→f0=cu d.jd→f1=cE d.a8→f2=bM d.ky→False):oO k f b:=fun d hd e=>by
 subst e;obtain⟨s0,s1,s2,g0,g1,g2,g3⟩:=i6 hk hL;rw[g0]at h0;cases h0;rw[g1]at h1;cases h1;rw[g2]at h2;cases h2;rw[g3]at h3;cases h3;exact hf d hd rfl rfl rfl rfl
theorem E8 {v:Nat}{r0 r1 r2 f0 f1 f2:List UInt8}{d:gP}(h0:a6 2 b=some (v,r0))(hv:v=k)(h1:bX 9223372036854775807 r0=some (f0,r1))(h2:bX 9223372036854775807 r1=some (f1,r2))(h3:bX 9223372036854775807 r2=some (f2,[]))
 (e0:gB f0=some (d.jd,[])) (e1:dC f1=some (d.a8,[])) (e2:gi f2=some (d.ky,[])) (hc:d.a8.ad.length≤9223372036854775807):b=dx k d:=by
 subst hv;obtain⟨rfl,_,_⟩:=aU.1 h0;obtain⟨rfl,_,_⟩:=dh.1 h1;obtain⟨rfl,_,_⟩:=dh.1 h2;obtain⟨rfl,_,_⟩:=dh.1 h3;obtain⟨rfl,_,_⟩:=sC.1 e0;obtain⟨rfl,_⟩:=(fQ hc).1 e1;obtain⟨rfl,_,_⟩:=oq.1 e2;unfold dx fr;simp only[List.append_nil,List.append_assoc]
end
theorem hZ {xs:List aM}{n:Nat}(h:(cu xs).length≤n)(hn:n≤9223372036854775807:=by omega):xs.length≤9223372036854775807:=by
 have h1:=gC (g:=kG) (k:=4) (fun p e=>A6 p e) xs none;unfold cu at h;rw[List.length_append]at h;omega
theorem lK {p:aB}{n:Nat}(h:(cE p).length≤n)(hn:n≤9223372036854775807:=by omega):p.ad.length≤9223372036854775807:=by
 have:=mD p;omega
theorem zE {es:List aM}{p:aB}{rs:List br}(h1:cO es=true)(h2:bK p=true)(h3:df rs=true):aK ⟨es,p,rs⟩=true:=by
 unfold aK;dsimp only;rw[h1,h2,h3];rfl
theorem dv (W w:World)(L:List As)(r:Nat)(A:Option Addr)(c:Nat)(bs:List UInt8)(at_:Nat)(mo:Int)(hS:Sat W w (eR r A c bs at_ true 0::L))(hat:at_≤bs.length)(hb:bs.length≤140737488355328)(hR:∀w,Sat W w L→Rd w 1 (.slice A bs.length c) bs.length (bs.map ao)):Calls Tryz.prog 103 #[.pointer (some ⟨r,0,none⟩),.int .i64 mo] w fun e w'=>
 (∃(s:List UInt8) (at':Nat) (A':Option Addr) (c':Nat),bX mo (bs.drop at_)=some (s,bs.drop at')∧at'≤bs.length∧s.length≤bs.length∧e=.returned (.slice A' s.length c')∧Sat W w' (eR r A c bs (at':Int) true 0::row 5 1 (.slice A' (s).length c') (s).length ((s).map ao)::L))∨(bX mo (bs.drop at_)=none∧te (.iface 271 (.agg #[.pointer (some ⟨r,0,none⟩)])) e∧∃at' er:Int,er≠0∧Sat W w' (eR r A c bs at' true er::L)):=
 (tm W w L r A c bs at_ mo hS hat hb hR).mono fun e w' h=>by
  rcases h with ⟨h0,A',c',he,hs⟩ | ⟨h0,hp,at',hs⟩
  ·
   have hl:=xJ (bs:=bs) (i:=at_) (mo:=mo);obtain⟨s,a,hu,h1,h2⟩:=GH h0;rw[hu]at he hs hl;exact .inl ⟨s,a,A',c',h1,h2,hl,he,hs⟩
  ·
   exact .inr ⟨sB h0,hp,at',_,by omega,hs⟩
def Ei (k:Nat)(bs:List UInt8)(b8:Nat)(L:List As)(at' err:Int)(ok:Bool)(M:List As):Prop:=(ok=true∧err=0∧∃(v:Nat) (r0 r1 r2 f0 f1 f2:List UInt8) (n:Nat) (A0 A1 A2:Option Addr) (c0 c1 c2:Nat),at'=(n:Int)∧v=k∧a6 2 bs=some (v,r0)∧bX 9223372036854775807 r0=some (f0,r1)∧bX 9223372036854775807 r1=some (f1,r2)∧bX 9223372036854775807 r2=some (f2,bs.drop n)∧n≤bs.length∧f0.length≤bs.length∧f1.length≤bs.length∧f2.length≤bs.length∧M=aS b8 (.cells #[.slice A0 f0.length c0,.slice A1 f1.length c1,.slice A2 f2.length c2] 307)::row 5 1 (.slice A0 (f0).length c0) (f0).length ((f0).map ao)::row 5 1 (.slice A1 (f1).length c1) (f1).length ((f1).map ao)::row 5 1 (.slice A2 (f2).length c2) (f2).length ((f2).map ao)::L)∨(ok=false∧err≠0∧(∀f,oO k f bs)∧M=L)
end Go.Proofs.YtkjabaihpkbfhaaGreat.Wk
namespace Go.Proofs.YtkjabaihpkbfhaaGreat.Wk
open Go Go.RowKit Go.Proofs.YtkjabaihpkbfhaaGreat Go.Proofs.YtkjabaihpkbfhaaGreat.K Go.Proofs.YtkjabaihpkbfhaaGreat.T
theorem uY (W w:World)(L:List As)(r q p b3 b8 k:Nat)(A:Option Addr)(c:Nat)(bs:List UInt8)(hS:Sat W w (eR r A c bs 0 true 0::fz q r::fe p 0::aS b8 (.cells #[.slice none 0 0,.slice none 0 0,.slice none 0 0] 307)::aS b3 (.cells #[.int .i64 (k:Int)] 3)::L))(hk:k≤2)(hb:bs.length≤1000000000000)(hR:Rd W 1 (.slice A bs.length c) bs.length (bs.map ao)):Calls Tryz.prog 364 #[.pointer (some ⟨r,0,none⟩),.pointer (some ⟨b3,0,none⟩),.pointer (some ⟨b8,0,none⟩)] w fun e w'=>∃(at' err:Int) (ok:Bool) (M:List As),wm r ok e∧Sat W w' (eR r A c bs at' true err::fz q r::fe p 0::M)∧Ei k bs b8 L at' err ok M:=by
 refine enter Tryz.func364 rfl rfl rfl (.cons (i:=0) rfl (.cons (i:=1) rfl (.cons (i:=2) rfl .nil))) ?_;have hL:bs.length≤9223372036854775807:=(by omega);refine uC 2 ?_;intro a hA;refine jP [] (kx W (fz q r::fe p 0::aS b8 (.cells #[.slice none 0 0,.slice none 0 0,.slice none 0 0] 307)::aS b3 (.cells #[.int .i64 (k:Int)] 3)::L)) (by kernel_rfl) ?_;replace hS:=hS.drew;refine rX [0] hA ?_;clear hA a;refine dH 2 [] rfl (by exact⟨[_],hS⟩) (fun w hT=>have hS:=hT.sat;(ld rfl bq)) ?_;intro a hA;refine aG 1 (by kernel_rfl) ?_;refine Cc hA rfl rfl fk rfl (bx _ _ _ r A c bs 0 2 hS (by omega) (by omega) (fun w h=>hR.sat h)) ?_;rintro e w (⟨v6,at6,hn6,ha6,hv6,hw6,rfl,hS'⟩ | ⟨hn6,⟨older,rfl,ho⟩,at',er,hne,hS'⟩)
 rotate_left 1
 ·refine .inr ⟨_,rfl,?_⟩;refine rE 2 hA ?_;clear hA a;intro a hA;refine bV hA ?_;clear hS;have hS:=hS';clear hS';exact⟨at',er,false,_,.inr ⟨rfl,.inl ⟨older,rfl,ho⟩⟩,((hS.p 3).drop.p 3).drop,.inr ⟨rfl,hne,fun f=>GL hk hL hn6,rfl⟩⟩
 clear hS;have hS:=hS';clear hS';refine .inl ⟨_,rfl,?_⟩;clear hA a;intro a hA;refine⟨.inr fun _=>(by exact⟨[_],hS⟩),?_⟩;refine K.EX 3 hA pk rfl rfl rfl rfl (by kernel_rfl) (by kernel_rfl) (by kernel_rfl) (fun w=>(aD (hA.ev rfl) (hA.ev rfl))) ?_ ?_
 ·clear hA a;intro h8;intro a hA;refine ai (by kernel_rfl) ?_ _;refine rE 4 hA ?_;clear hA a;intro a hA;refine cJ hA rfl iR rfl (bQ _ _ _ r A c bs at6 8 hS (by omega) (by omega) (fun w h=>hR.sat h)) ?_;rintro e w ⟨⟨older,rfl,ho⟩,at',hS'⟩
  ·refine .inr ⟨_,rfl,?_⟩;refine rE 1 hA ?_;clear hA a;intro a hA;refine bV hA ?_;clear hS;have hS:=hS';clear hS';exact⟨at',8,false,_,.inr ⟨rfl,.inl ⟨older,rfl,ho⟩⟩,((hS.p 3).drop.p 3).drop,.inr ⟨rfl,by decide,fun f=>GV hk hL hn6 h8,rfl⟩⟩
 ·clear hA a;intro h8;intro a hA;refine ai (by kernel_rfl) ?_ _;refine rE 10 hA ?_;clear hA a;intro a hA;refine wp_loop_rounds 4 ?_;refine aE ?_;refine rC 2 hA ?_;clear hA a;refine u1 17 (dr (aA rfl rfl) (by omega)) ?_;intro a hA;refine cJ hA rfl rD rfl (dv _ _ _ r A c bs at6 9223372036854775807 hS (by omega) (by omega) (fun w h=>hR.sat h)) ?_;rintro e w (⟨f0,af0,A0,c0,hf0,haf0,hlf0,rfl,hS'⟩ | ⟨hf0,⟨older,rfl,ho⟩,at',er,hne,hS'⟩)
  ·clear hS;have hS:=hS';clear hS';refine .inl ⟨_,rfl,?_⟩;clear hA a;refine u1 0 (bI rfl rfl mj gl (by omega) (by omega)) ?_;intro a hA;refine jR (cs':=[_,_,_]) hA rfl rfl ed gl rfl (hS.p 4) rfl rfl ?_;clear hS;intro w hS;refine rO 4 hA ?_;clear hA a;refine u1 2 (aH (aj rfl rfl (by omega) (by omega)) (show _=Value.int .i64 1 from rfl)) ?_;intro a hA;refine aE ?_;refine rC 2 hA ?_;clear hA a;refine u1 17 (dr (aA rfl rfl) (by omega)) ?_;intro a hA;refine cJ hA rfl rD rfl (dv _ _ _ r A c bs af0 9223372036854775807 (hS.p 1) (by omega) (by omega) (fun w h=>hR.sat h)) ?_;rintro e w (⟨f1,af1,A1,c1,hf1,haf1,hlf1,rfl,hS'⟩ | ⟨hf1,⟨older,rfl,ho⟩,at',er,hne,hS'⟩)
   ·clear hS;have hS:=hS';clear hS';refine .inl ⟨_,rfl,?_⟩;clear hA a;refine u1 0 (bI rfl rfl mj gl (by omega) (by omega)) ?_;intro a hA;refine jR (cs':=[_,_,_]) hA rfl rfl ed gl rfl (hS.p 2) rfl rfl ?_;clear hS;intro w hS;refine rO 4 hA ?_;clear hA a;refine u1 2 (aH (aj rfl rfl (by omega) (by omega)) (show _=Value.int .i64 2 from rfl)) ?_;intro a hA;refine aE ?_;refine rC 2 hA ?_;clear hA a;refine u1 17 (dr (aA rfl rfl) (by omega)) ?_;intro a hA;refine cJ hA rfl rD rfl (dv _ _ _ r A c bs af1 9223372036854775807 (hS.p 1) (by omega) (by omega) (fun w h=>hR.sat h)) ?_;rintro e w (⟨f2,af2,A2,c2,hf2,haf2,hlf2,rfl,hS'⟩ | ⟨hf2,⟨older,rfl,ho⟩,at',er,hne,hS'⟩)
    ·clear hS;have hS:=hS';clear hS';refine .inl ⟨_,rfl,?_⟩;clear hA a;refine u1 0 (bI rfl rfl mj gl (by omega) (by omega)) ?_;intro a hA;refine jR (cs':=[_,_,_]) hA rfl rfl ed gl rfl (hS.p 2) rfl rfl ?_;clear hS;intro w hS;refine rO 4 hA ?_;clear hA a;refine u1 2 (aH (aj rfl rfl (by omega) (by omega)) (show _=Value.int .i64 3 from rfl)) ?_;intro a hA;refine aE ?_;refine rC 2 hA ?_;clear hA a;refine u1 8 (cV (aA rfl rfl) (by omega)) ?_;intro a hA;refine dP (e:=.ret) ?_;refine fW hA rfl  ?_;refine⟨(af2:Int),0,true,_,.inl ⟨rfl,rfl⟩,((((((((hS.p 2).p 3).p 4).p 3).p 6).p 6).p 6).p 7).drop,.inl ⟨rfl,rfl,v6,_,_,_,f0,f1,f2,af2,A0,A1,A2,c0,c1,c2,rfl,by omega,hn6,hf0,hf1,hf2,haf2,hlf0,hlf1,hlf2,rfl⟩⟩
    ·refine .inr ⟨_,rfl,?_⟩;refine rE 4 hA ?_;clear hA a;intro a hA;refine bV hA ?_;clear hS;have hS:=hS';clear hS';exact⟨at',er,false,_,.inr ⟨rfl,.inl ⟨older,rfl,ho⟩⟩,(((((((hS.p 5).p 5).p 2).p 6).p 6).p 6).p 6).drop.drop.drop.drop,.inr ⟨rfl,hne,fun f=>GU hk hL hn6 hf0 hf1 hf2,rfl⟩⟩
   ·refine .inr ⟨_,rfl,?_⟩;refine rE 4 hA ?_;clear hA a;intro a hA;refine bV hA ?_;clear hS;have hS:=hS';clear hS';exact⟨at',er,false,_,.inr ⟨rfl,.inl ⟨older,rfl,ho⟩⟩,((((((hS.p 4).p 4).p 2).p 5).p 5).p 5).drop.drop.drop,.inr ⟨rfl,hne,fun f=>GS hk hL hn6 hf0 hf1,rfl⟩⟩
  ·refine .inr ⟨_,rfl,?_⟩;refine rE 4 hA ?_;clear hA a;intro a hA;refine bV hA ?_;clear hS;have hS:=hS';clear hS';exact⟨at',er,false,_,.inr ⟨rfl,.inl ⟨older,rfl,ho⟩⟩,((hS.p 3).drop.p 3).drop,.inr ⟨rfl,hne,fun f=>GP hk hL hn6 hf0,rfl⟩⟩
end Go.Proofs.YtkjabaihpkbfhaaGreat.Wk
