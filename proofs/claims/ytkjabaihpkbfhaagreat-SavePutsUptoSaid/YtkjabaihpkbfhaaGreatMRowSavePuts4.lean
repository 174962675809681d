/- Texts of our own that a row leans on, put together. No condition of their own. -/
import Derived.Test.YtkjabaihpkbfhaaGreatMRowSavePuts3
set_option linter.unusedVariables false
set_option linter.unusedSimpArgs false
set_option maxRecDepth 100000
set_option maxHeartbeats 2000000
namespace Go.Proofs.YtkjabaihpkbfhaaGreat.Wk
open Go Go.RowKit Go.Proofs.YtkjabaihpkbfhaaGreat Go.Proofs.YtkjabaihpkbfhaaGreat.K Go.Proofs.YtkjabaihpkbfhaaGreat.T
theorem qu (W:World)(A:Option Addr)(c:Nat)(rs:List RL)(B:Option Addr)(d:Nat)(ts:List RL)(hX:fO W A c rs)(hY:fO W B d ts)(hEx:∀r∈rs,r.p.ok W)(hEy:∀r∈ts,r.p.ok W)(hBx:dx 10000000000 rs)(hBy:dx 10000000000 ts)(hl1:rs.length≤1000000000000)(hl2:ts.length≤1000000000000):Calls Tryz.prog 107 #[.slice A (rs).length c,.slice B (ts).length d] W fun e w'=>e=.returned (.bool (decide (rs.map RL.d=ts.map RL.d)))∧Sat W w' []:=by
 refine enter Tryz.func107 rfl rfl rfl (.cons (i:=0) rfl (.cons (i:=1) rfl .nil)) ?_;have hS:=Sat.start W;refine uC 9 ?_;refine u1 1 (ar rfl db) ?_;refine u1 0 (ar rfl db) ?_;refine aR 0 0 (aK rfl rfl) ?_ ?_
 ·intro h10;refine uO 10 ?_;refine aX ?_;refine⟨?_,hS⟩;rw[decide_eq_false];intro h;have:=congrArg List.length h;simp at this;omega
 ·intro h10;refine uO 12 ?_;intro a hA;refine wp_loop_ghost (fun (mm:Nat) a w=>∃(i:Nat),Ag a 42 [(0,.slice A (rs).length c),(1,.slice B (ts).length d),(5,.int .i64 ((i:Nat):Int))]∧Sat W w ([])∧(i≤rs.length)∧((rs.map RL.d).take i=(ts.map RL.d).take i)∧mm=rs.length-i) rs.length ?_ ?_
  ·replace hA:=hA.kp [0,1,5] rfl;exact⟨0,hA,hS,(by omega),(by rfl),by omega⟩
  intro m a w hI;clear hS hA;obtain⟨i,hA,hS,hi,he,rfl⟩:=hI;refine rC 5 hA ?_;clear hA a;refine u1 0 (ar rfl db) ?_;refine aR 0 0 (aw rfl rfl) ?_ ?_
  ·intro h14;refine uO 8 ?_;intro a hA;refine bh [22] hS (by kernel_rfl) ?_;replace hS:=hS.drew;refine rX [0,1] hA ?_;clear hA a;obtain⟨A_p,rfl⟩:∃q,A=some q:=(hX.sat hS).av (by omega);obtain⟨x,hx⟩:∃zz_,rs[i]?=some zz_:=⟨_,List.getElem?_eq_getElem (by omega)⟩;have hxo:=hEx x (List.mem_of_getElem? hx);obtain⟨hxv,hxc⟩:=hBx.get hx;refine bz 2 [] rfl (fun w=>(aj rfl rfl db bT (by omega) (by omega))) ?_;refine bz 3 [] rfl (fun w=>(aA rfl bY)) ?_;refine cT 4 [5,6] rfl (by exact⟨[],hS⟩) (fun w hT=>have hS:=hT.sat;(aq rfl lq (bJ (hX.sat hS) (cR hx 0 _ rfl)))) ?_;obtain⟨B_p,rfl⟩:∃q,B=some q:=(hY.sat hS).av (by omega);obtain⟨y,hy⟩:∃zz_,ts[i]?=some zz_:=⟨_,List.getElem?_eq_getElem (by omega)⟩;have hyo:=hEy y (List.mem_of_getElem? hy);obtain⟨hyv,hyc⟩:=hBy.get hy
   refine bz 7 [] rfl (fun w=>(aj rfl rfl db bT (by omega) (by omega))) ?_;refine bz 8 [] rfl (fun w=>(aA rfl bY)) ?_;refine cT 9 [] rfl (by exact⟨[],hS⟩) (fun w hT=>have hS:=hT.sat;(aq rfl lq (bJ (hY.sat hS) (cR hy 0 _ rfl)))) ?_;intro a hA;refine K.GW 10 hA pk rfl rfl rfl rfl (by kernel_rfl) (by kernel_rfl) (by kernel_rfl) (fun w=>(Au (hA.ev rfl) (hA.ev rfl))) ?_ ?_
   ·clear hA a;intro h27;refine uX [11,12,13,14,15,16,17,18,19,20,21,22,23,24] ?_;intro a hA;refine ak (by kernel_rfl) ?_ _;refine rE 13 hA ?_;clear hA a;refine aX ?_;refine⟨?_,hS⟩;rw[decide_eq_false];intro h;have h1:=bR hx;rw[h,bR hy]at h1
    injection h1 with h1
    exact h27 (congrArg bW.cy h1.symm)
   ·clear hA a;intro h27;refine uX [11,12,13] ?_;refine bz 14 [] rfl (fun w=>(aj rfl rfl db bT (by omega) (by omega))) ?_;refine bz 15 [] rfl (fun w=>(aA rfl bM)) ?_;refine cT 16 [17,18] rfl (by exact⟨[],hS⟩) (fun w hT=>have hS:=hT.sat;(ad (cs:=[.slice x.p.va x.p.d.vec.length x.p.vc,.slice x.p.ca x.p.d.ab.length x.p.cc]) rfl a6 aC (fun j u e=>kV (hX.sat hS) (cR hx _ u (oh x j u e))))) ?_;refine bz 19 [] rfl (fun w=>(aj rfl rfl db bT (by omega) (by omega))) ?_;refine bz 20 [] rfl (fun w=>(aA rfl bM)) ?_;refine cT 21 [] rfl (by exact⟨[],hS⟩) (fun w hT=>have hS:=hT.sat;(ad (cs:=[.slice y.p.va y.p.d.vec.length y.p.vc,.slice y.p.ca y.p.d.ab.length y.p.cc]) rfl a6 aC (fun j u e=>kV (hY.sat hS) (cR hy _ u (oh y j u e))))) ?_;intro a hA;refine aG 22 (by kernel_rfl) ?_
    refine Fc hA rfl (ao hA rfl rfl rfl) rfl Eb rfl (pQ _ x.p y.p (hxo.sat hS) (hyo.sat hS) hxv (by omega) hyv (by omega)) ?_;clear hA a;rintro e w ⟨rfl,hT⟩;replace hS:Sat _ _ _:=hS.ai hT;clear hT;refine⟨_,rfl,?_⟩;intro a hA;refine⟨.inl rfl,?_⟩;refine K.C7 23 hA pk rfl (ao hA rfl rfl rfl) rfl rfl (by kernel_rfl) (by kernel_rfl) (by kernel_rfl) (fun w=>(aM (hA.ev rfl))) ?_ ?_
    ·clear hA a;intro h40;intro a hA;simp only[decide_eq_decide,decide_eq_true_eq,decide_eq_false_iff_not,Bool.not_eq_true',Bool.not_eq_false',bne_iff_ne,ne_eq,beq_iff_eq,Bool.not_eq_true,Bool.not_eq_false]at h40;refine rX [24] hA ?_;clear hA a;intro a hA;refine ak (by kernel_rfl) ?_ _;refine rE 13 hA ?_;clear hA a;refine aX ?_;refine⟨?_,hS⟩;rw[decide_eq_false];intro h;have h1:=bR hx;rw[h,bR hy]at h1
     injection h1 with h1
     have h2:x.p.d=y.p.d:=congrArg bW.bF h1.symm;simp[h2]at h40
    ·clear hA a;intro h40;intro a hA;simp only[decide_eq_decide,decide_eq_true_eq,decide_eq_false_iff_not,Bool.not_eq_true',Bool.not_eq_false',bne_iff_ne,ne_eq,beq_iff_eq,Bool.not_eq_true,Bool.not_eq_false]at h40;refine rX [24] hA ?_;clear hA a;intro a hA;refine ak (by kernel_rfl) ?_ _;refine rE 7 hA ?_;clear hA a;refine u1 2 (ah rfl rfl (by omega) (by omega)) ?_;intro a hA;replace hA:=hA.kp [0,1,5] rfl;have hxy:x.d=y.d:=Hn (Classical.not_not.1 h27) (by simpa using h40);exact⟨rs.length-(i+1),by omega,i+1,hA,hS,by omega,by rw[aD (bR hx),aD (bR hy),he,hxy],rfl⟩
  ·intro h14;refine uO 8 ?_;intro a hA;replace hA:=hA.kp [] rfl;refine rC 6 hA ?_;clear hA a;refine aX ?_;rw[List.take_of_length_le (by simp;omega),List.take_of_length_le (by simp;omega)]at he;refine⟨?_,hS⟩;rw[decide_eq_true he]
theorem pr (W:World)(s t:SL)(hp:s.ok W)(hs:jY s)(gp:t.ok W)(gs:jY t):Calls Tryz.prog 50 #[.agg #[.slice s.e.a s.e.es.length s.e.c,.slice s.p.va s.p.d.vec.length s.p.vc,.slice s.p.ca s.p.d.ab.length s.p.cc,.slice s.r.a s.r.rs.length s.r.c],.agg #[.slice t.e.a t.e.es.length t.e.c,.slice t.p.va t.p.d.vec.length t.p.vc,.slice t.p.ca t.p.d.ab.length t.p.cc,.slice t.r.a t.r.rs.length t.r.c]] W fun e w'=>e=.returned (.bool (decide (s.d=t.d)))∧Sat W w' []:=by
 refine enter Tryz.func50 rfl rfl rfl (.cons (i:=0) rfl (.cons (i:=1) rfl .nil)) ?_;have hS:=Sat.start W;obtain⟨⟨ea,ec,es⟩,p,⟨ra,rc,rs⟩⟩:=s;have he:fI W ea ec es:=hp.e;have hpp:p.ok W:=hp.p;have hrt:fO W ra rc rs:=hp.r.top;have hre:∀r∈rs,r.p.ok W:=hp.r.each;have hel:es.length≤16777216:=hs.es;have hpv:p.d.vec.length≤1000000000000:=hs.pv;have hpc:p.d.ab.length≤16777216:=hs.pc;have hrs:cN (rs.map fun r=>r.p.d)≤16777216:=hs.rs;have hrb:dx 10000000000 rs:=(fv hs.rv hrs).mono (by decide);have hrl:=jW hrs;obtain⟨⟨fa,fc,fs⟩,q,⟨ta,tc,ts⟩⟩:=t;have ge:fI W fa fc fs:=gp.e;have gpp:q.ok W:=gp.p;have grt:fO W ta tc ts:=gp.r.top;have gre:∀r∈ts,r.p.ok W:=gp.r.each;have gel:fs.length≤16777216:=gs.es;have gpv:q.d.vec.length≤1000000000000:=gs.pv;have gpc:q.d.ab.length≤16777216:=gs.pc;have grs:cN (ts.map fun r=>r.p.d)≤16777216:=gs.rs
 have grb:dx 10000000000 ts:=(fv gs.rv grs).mono (by decide);have grl:=jW grs;refine uC 2 ?_;refine uB rfl hS ?_;clear hS;intro b2 w hS;refine uB rfl hS ?_;clear hS;intro b3 w hS;refine uO 5 ?_;refine u1 0 (aa rfl sc) ?_;refine u1 0 (ld rfl ma) ?_;refine u1 0 (aa rfl sc) ?_;refine u1 0 (ld rfl ma) ?_;refine uF Jm rfl (yF _ ea ec es fa fc fs (he.sat hS) (ge.sat hS) (by omega) (by omega)) ?_;rintro e w ⟨rfl,hT⟩;replace hS:Sat _ _ _:=hS.ai hT;clear hT;generalize h9:(decide (es=fs))=bb;cases bb
 ·refine⟨_,rfl,?_⟩;refine uO 18 ?_;refine aX ?_;refine⟨?_,hS.nil⟩;rw[decide_eq_false];intro h;exact (of_decide_eq_false h9) (congrArg jP.lQ h)
 ·refine⟨_,rfl,?_⟩;refine uO 1 ?_;refine u1 0 (aa rfl r6) ?_;refine u1 0 (ad (cs:=[_,_]) rfl a6 aC (by exact (hS.p 1).ag (xs:=[_,_]) rfl)) ?_;refine u1 0 (aa rfl r6) ?_;refine u1 0 (ad (cs:=[_,_]) rfl a6 aC (by exact hS.ag (xs:=[_,_]) rfl)) ?_;intro a hA;refine dQ hA (ao hA rfl rfl rfl) rfl Eb rfl (pQ _ p q (hpp.sat hS) (gpp.sat hS) hpv (by omega) gpv (by omega)) ?_;clear hA a;rintro e w ⟨rfl,hT⟩;replace hS:Sat _ _ _:=hS.ai hT;clear hT;generalize h15:(decide (p.d=q.d))=bb;cases bb
  ·refine⟨_,rfl,?_⟩;refine uO 12 ?_;refine aX ?_;refine⟨?_,hS.nil⟩;rw[decide_eq_false];intro h;exact (of_decide_eq_false h15) (congrArg jP.bF h)
  ·refine⟨_,rfl,?_⟩;refine uO 2 ?_;refine u1 0 (aa rfl rI) ?_;refine u1 0 (ld rfl l5) ?_;refine u1 0 (aa rfl rI) ?_;refine u1 0 (ld rfl l5) ?_;intro a hA;refine dQ hA (ao hA rfl rfl rfl) rfl JW rfl (qu _ ra rc rs ta tc ts (hrt.sat hS) (grt.sat hS) (fun r h=>(hre r h).sat hS) (fun r h=>(gre r h).sat hS) hrb grb (by omega) (by omega)) ?_;clear hA a;rintro e w ⟨rfl,hT⟩;replace hS:Sat _ _ _:=hS.ai hT;clear hT;refine⟨_,rfl,?_⟩;refine uO 5 ?_;refine aX ?_;refine⟨?_,hS.nil⟩
   congr 2
   rw[decide_eq_decide];exact⟨fun h=>DT (of_decide_eq_true h9) (of_decide_eq_true h15) h,fun h=>congrArg jP.nG h⟩
theorem sH (W:World)(s t:SL)(hp:s.ok W)(hs:jY s)(gp:t.ok W)(gs:jY t):Calls Tryz.prog 51 #[.agg #[.slice s.e.a s.e.es.length s.e.c,.slice s.p.va s.p.d.vec.length s.p.vc,.slice s.p.ca s.p.d.ab.length s.p.cc,.slice s.r.a s.r.rs.length s.r.c],.agg #[.slice t.e.a t.e.es.length t.e.c,.slice t.p.va t.p.d.vec.length t.p.vc,.slice t.p.ca t.p.d.ab.length t.p.cc,.slice t.r.a t.r.rs.length t.r.c]] W fun e w'=>e=.returned (.bool (decide (s.d=t.d)))∧Sat W w' []:=by
 refine enter Tryz.func51 rfl rfl rfl (.cons (i:=0) rfl (.cons (i:=1) rfl .nil)) ?_;have hS:=Sat.start W;refine uC 2 ?_;refine uB rfl hS ?_;clear hS;intro b2 w hS;refine uB rfl hS ?_;clear hS;intro b3 w hS;refine uO 5 ?_;refine u1 0 (aa rfl jV) ?_;refine u1 0 (ld rfl ma) ?_;refine u1 0 (aa rfl l9) ?_;refine u1 0 (ad (cs:=[_,_]) rfl a6 aC (by exact (hS.p 1).ag (xs:=[_,_]) rfl)) ?_;refine u1 0 (aa rfl j3) ?_;refine u1 0 (ld rfl l5) ?_;intro a hA;refine o1 0 hA (aP hA rfl nn) ?_;clear hA a;refine uN vD hS ?_;clear hS;intro b5 w hS;refine uW (vs:=[_,_,_,_]) (cs':=[_,_,_,_]) rfl rfl fX hS ?_;clear hS;intro w hS
 refine uO 4 ?_;refine u1 0 (aa rfl jV) ?_;refine u1 0 (ld rfl ma) ?_;refine u1 0 (aa rfl l9) ?_;refine u1 0 (ad (cs:=[_,_]) rfl a6 aC (by exact (hS.p 1).ag (xs:=[_,_]) rfl)) ?_;refine u1 0 (aa rfl j3) ?_;refine u1 0 (ld rfl l5) ?_;intro a hA;refine o1 0 hA (aP hA rfl nn) ?_;clear hA a;refine uN vD hS ?_;clear hS;intro b6 w hS;refine uW (vs:=[_,_,_,_]) (cs':=[_,_,_,_]) rfl rfl fX hS ?_;clear hS;intro w hS;refine uO 4 ?_;refine u1 0 (ad (cs:=[_,_,_,_]) rfl l8 fX (by exact (hS.p 1).ag (xs:=[_,_,_,_]) rfl)) ?_;refine u1 0 (ad (cs:=[_,_,_,_]) rfl l8 fX (by exact hS.ag (xs:=[_,_,_,_]) rfl)) ?_;refine uF Kh rfl (pr _ s t (hp.sat hS) hs (gp.sat hS) gs) ?_;rintro e w ⟨rfl,hT⟩;replace hS:Sat _ _ _:=hS.ai hT;clear hT;refine⟨_,rfl,?_⟩;refine uO 4 ?_;refine aX ?_
 exact⟨rfl,hS.nil⟩
end Go.Proofs.YtkjabaihpkbfhaaGreat.Wk
namespace Go.Proofs.YtkjabaihpkbfhaaGreat.Wk
open Go Go.RowKit Go.Proofs.YtkjabaihpkbfhaaGreat Go.Proofs.YtkjabaihpkbfhaaGreat.K
def aI (n:Nat):List UInt8:=if n<128 then [UInt8.ofNat n] else UInt8.ofNat (n % 128+128)::aI (n / 128)
termination_by n
decreasing_by omega
theorem fB {n:Nat}(h:n<128):aI n=[UInt8.ofNat n]:=by rw[aI,if_pos h]
theorem mS {n:Nat}(h:128≤n):aI n=UInt8.ofNat (n % 128+128)::aI (n / 128):=by rw[aI,if_neg (by omega)]
theorem cE (n:Nat):0<(aI n).length:=by
 by_cases h:n<128
 ·
  rw[fB h];simp
 ·
  rw[mS (by omega)];simp
theorem zL:∀(k n:Nat),n<128 ^ (k+1)→(aI n).length≤k+1
 | 0,n,h=>by rw[fB (by simpa using h)];simp
 | k + 1, n, h => by
   by_cases hn:n<128
   ·
    rw[fB hn];simp
   ·
    rw[mS (by omega)];have:=zL k (n / 128) (by rw[Nat.div_lt_iff_lt_mul (by omega)];rw[Nat.pow_succ]at h;exact h);simp;omega
theorem bf {n:Nat}(h:n≤9223372036854775807):(aI n).length≤9:=zL 8 n (by omega)
def iO:Nat→Nat→List UInt8→Nat×Nat×Nat
 | 0,_,_=>(51,0,0)
 | _+1,_,[]=>(50,0,0)
 | f + 1, k, c :: l => if c.toNat < 128 then (if c.toNat = 0 ∧ 0 < k then (51, 0, 0) else (0, c.toNat, 1)) else
     (if (iO f (k+1) l).1=0 then (0,(c.toNat-128)+128 * (iO f (k+1) l).2.1,(iO f (k+1) l).2.2+1) else ((iO f (k+1) l).1,0,0))
def lift (acc wt i:Nat)(r:Nat×Nat×Nat):Nat×Nat×Nat:=if r.1=0 then (0,acc+wt * r.2.1,i+r.2.2) else (r.1,0,0)
theorem CH (acc wt i c:Nat)(r:Nat×Nat×Nat):lift acc wt i (if r.1=0 then (0,c+128 * r.2.1,r.2.2+1) else (r.1,0,0))=lift (acc+wt * c) (wt * 128) (i+1) r:=by
 unfold lift
 by_cases h:r.1=0
 ·
  rw[if_pos h,if_pos rfl,if_pos h];simp only[Prod.mk.injEq,true_and];refine⟨?_,by omega⟩;rw[Nat.mul_add,Nat.mul_assoc,←Nat.add_assoc]
 ·
  rw[if_neg h,if_neg h,if_neg h]
theorem FX (r:Nat×Nat×Nat)(h:r.1=0∨(r.2.1=0∧r.2.2=0)):lift 0 1 0 r=r:=by
 unfold lift;obtain⟨a,b,c⟩:=r
 by_cases ha:a=0
 ·
  subst ha;simp
 ·
  rw[if_neg ha];rcases h with h | ⟨h1,h2⟩
  ·
   exact absurd h ha
  ·
   simp at h1 h2;subst h1 h2;rfl
theorem Er:∀(f k:Nat) (l:List UInt8),(iO f k l).1=0∨((iO f k l).2.1=0∧(iO f k l).2.2=0)
 | 0,_,_=>.inr ⟨rfl,rfl⟩
 | _+1,_,[]=>.inr ⟨rfl,rfl⟩
 | f + 1, k, c :: l => by
   unfold iO
   (repeat' split)<;>simp
theorem BO (c:UInt8):c.toNat<256:=c.toNat_lt
theorem xY:∀(f k:Nat) (l:List UInt8) (v n:Nat),iO f k l=(0,v,n)→n≤f∧n≤l.length∧v<128 ^ f∧(0<k→0<v)∧l.take n=aI v
 | 0,_,_,_,_,h=>by simp[iO]at h
 | _+1,_,[],_,_,h=>by simp[iO]at h
 | f + 1, k, c :: l, v, n, h => by
   unfold iO at h;have hc:=BO c
   split at h
   ·
    rename_i h1
    split at h
    ·
     simp at h
    ·
     rename_i h2;simp only[Prod.mk.injEq,true_and]at h;obtain⟨rfl,rfl⟩:=h;have hp:1≤128 ^ f:=Nat.one_le_pow _ _ (by omega);refine⟨by omega,by simp,by rw[Nat.pow_succ];omega,fun hk=>by omega,?_⟩;rw[fB h1];simp
   ·
    rename_i h1
    split at h
    ·
     rename_i h2;simp only[Prod.mk.injEq,true_and]at h;obtain⟨rfl,rfl⟩:=h;obtain⟨i1,i2,i3,i4,i5⟩:=xY f (k+1) l (iO f (k+1) l).2.1 (iO f (k+1) l).2.2 (by rw[←h2]);have i4:=i4 (by omega);refine⟨by omega,by simp;omega,by rw[Nat.pow_succ];omega,fun _=>by omega,?_⟩;rw[mS (by omega),List.take_succ_cons];have e1:(c.toNat-128+128 * (iO f (k+1) l).2.1) / 128=(iO f (k+1) l).2.1:=by omega
     have e2:(c.toNat-128+128 * (iO f (k+1) l).2.1) % 128+128=c.toNat:=by omega
     rw[e1,e2,i5];simp
    ·
     simp at h;omega
theorem EH:∀(f k v:Nat) (l:List UInt8),v<128 ^ f→(0<k→0<v)→0<f→iO f k (aI v++l)=(0,v,(aI v).length)
 | 0,_,_,_,_,_,h=>by omega
 | f + 1, k, v, l, hv, hk, _ => by
   by_cases h:v<128
   ·
    rw[fB h];have e:(UInt8.ofNat v).toNat=v:=by simp[UInt8.toNat_ofNat'];omega
    simp only[List.cons_append,List.nil_append,iO,e];rw[if_pos h,if_neg (by omega)];rfl
   ·
    rw[mS (by omega)];have e:(UInt8.ofNat (v % 128+128)).toNat=v % 128+128:=by simp[UInt8.toNat_ofNat'];omega
    have hf:0<f:=by
     rcases Nat.eq_zero_or_pos f with h0 | h0
     ·
      subst h0;simp at hv;omega
     ·
      exact h0
    have:=EH f (k+1) (v / 128) l (by rw[Nat.div_lt_iff_lt_mul (by omega)];rw[Nat.pow_succ]at hv;exact hv) (fun _=>by omega) hf;simp only[List.cons_append,iO,e,this];rw[if_neg (by omega),if_pos trivial];simp;omega
def fp (bs:List UInt8)(at_:Nat):Nat×Nat×Nat:=if (iO 9 0 (bs.drop at_)).1=0 then ((iO 9 0 (bs.drop at_)).2.1,at_+(iO 9 0 (bs.drop at_)).2.2,0) else (0,0,(iO 9 0 (bs.drop at_)).1)
theorem rM {bs:List UInt8}{i:Nat}(h:(fp bs i).2.2=0):i<(fp bs i).2.1∧((fp bs i).2.1≤bs.length)∧(fp bs i).1≤9223372036854775807∧(fp bs i).2.1≤i+9∧(bs.drop i).take ((fp bs i).2.1-i)=aI (fp bs i).1∧(fp bs i).2.1-i=(aI (fp bs i).1).length:=by
 unfold fp at h ⊢
 by_cases h0:(iO 9 0 (bs.drop i)).1=0
 ·
  rw[if_pos h0];obtain⟨h1,h2,h3,_,h5⟩:=xY 9 0 (bs.drop i) (iO 9 0 (bs.drop i)).2.1 (iO 9 0 (bs.drop i)).2.2 (Prod.ext h0 rfl);have h6:=congrArg List.length h5;rw[List.length_take]at h6;have h7:=cE (iO 9 0 (bs.drop i)).2.1;simp only[List.length_drop]at h2 h6;have e:i+(iO 9 0 (bs.drop i)).2.2-i=(iO 9 0 (bs.drop i)).2.2:=by omega
  dsimp only;rw[e];refine⟨by omega,by omega,?_,by omega,h5,by omega⟩;have:(128:Nat) ^ 9=9223372036854775808:=by decide
  omega
 ·
  rw[if_neg h0]at h;exact absurd h h0
def nJ (wt i:Nat):Prop:=wt=128 ^ i
theorem nJ.zero:nJ 1 0:=rfl
theorem nJ.succ {wt i:Nat}(h:nJ wt i):nJ (wt * 128) (i+1):=by unfold nJ at *;rw[h,Nat.pow_succ]
theorem nJ.le {wt i:Nat}(h:nJ wt i)(hi:i≤8):1≤wt∧wt≤72057594037927936:=by
 unfold nJ at h;subst h;exact⟨Nat.one_le_pow _ _ (by omega),Nat.le_trans (Nat.pow_le_pow_right (by omega) hi) (by decide)⟩
theorem nJ.two {wt i:Nat}(h:nJ wt i):wt=2 ^ (7 * i):=by unfold nJ at h;rw[h,show (128:Nat)=2 ^ 7 from rfl,←Nat.pow_mul]
theorem HW {x wt i:Nat}(hx:x<128)(h:nJ wt i)(hi:i≤8):x * wt≤9151314442816847872:=Nat.le_trans (Nat.mul_le_mul (show x≤127 by omega) (h.le hi).2) (by decide)
theorem Ho (c:UInt8):IntKind.u8.wrap (BitVec.ofInt IntKind.u8.bits (c.toNat:Int) &&& BitVec.ofInt IntKind.u8.bits 127).toNat=((c.toNat % 128:Nat):Int):=by
 have h:(BitVec.ofInt IntKind.u8.bits (c.toNat:Int) &&& BitVec.ofInt IntKind.u8.bits 127).toNat=c.toNat % 128:=by
  rw[BitVec.toNat_and,BitVec.toNat_ofInt,BitVec.toNat_ofInt]
  have h1:((c.toNat:Int) % ((2 ^ IntKind.u8.bits:Nat):Int)).toNat=c.toNat:=by
   have:=BO c;simp[IntKind.bits];omega
  have h2:((127:Int) % ((2 ^ IntKind.u8.bits:Nat):Int)).toNat=2 ^ 7-1:=by decide
  rw[h1,h2,Nat.and_two_pow_sub_one_eq_mod]
 rw[h,gG (by simp[IntKind.min,IntKind.signed];try omega) (by simp[IntKind.max,IntKind.signed,IntKind.bits];try omega)]
theorem Lm {x i wt:Nat}(hx:x<128)(hi:i≤8)(hw:nJ wt i):IntKind.i64.wrap ((x:Int) * 2 ^ (min ((7 * (i:Int)).toNat) IntKind.i64.bits))=((x * wt:Nat):Int):=by
 have h1:min ((7 * (i:Int)).toNat) IntKind.i64.bits=7 * i:=by simp[IntKind.bits];omega
 have h2:=HW hx hw hi;have h3:(x:Int) * 2 ^ (7 * i)=((x * wt:Nat):Int):=by rw[hw.two];simp
 rw[h1,h3,gG (by simp only[IntKind.min,IntKind.signed,IntKind.bits];omega) (by simp only[IntKind.max,IntKind.signed,IntKind.bits];omega)]
theorem LS {acc x i wt:Nat}(ha:acc<wt)(hx:x<128)(hi:i≤8)(hw:nJ wt i):IntKind.i64.wrap (BitVec.ofInt IntKind.i64.bits (acc:Int) ||| BitVec.ofInt IntKind.i64.bits ((x * wt:Nat):Int)).toNat=((acc+x * wt:Nat):Int):=by
 have h2:=HW hx hw hi;have h1:=(hw.le hi).2
 have b:∀n:Nat,n<9223372036854775808→(BitVec.ofInt IntKind.i64.bits (n:Int)).toNat=n:=fun n hn=>by
  rw[BitVec.toNat_ofInt];simp only[IntKind.bits];omega
 have h:(BitVec.ofInt IntKind.i64.bits (acc:Int) ||| BitVec.ofInt IntKind.i64.bits ((x * wt:Nat):Int)).toNat=acc+x * wt:=by
  rw[BitVec.toNat_or,b _ (by omega),b _ (by omega),Nat.or_comm,Nat.mul_comm x wt,hw.two];rw[hw.two]at ha;rw[←Nat.two_pow_add_eq_or_of_lt ha,Nat.add_comm]
 rw[h,gG (by simp only[IntKind.min,IntKind.signed,IntKind.bits];omega) (by simp only[IntKind.max,IntKind.signed,IntKind.bits];omega)]
theorem lp {x:Nat}(h:x<256):Value.int .u8 (x:Int)=an (UInt8.ofNat x):=by
 unfold an;simp[UInt8.toNat_ofNat'];omega
theorem w9 {bs:List UInt8}{j:Nat}{x:UInt8}(hx:bs[j]?=some x):bs.drop j=x::bs.drop (j+1):=by
 have hl:=(List.getElem?_eq_some_iff.1 hx).1;rw[List.drop_eq_getElem_cons hl,(List.getElem?_eq_some_iff.1 hx).2]
theorem Ft {bs:List UInt8}{at_ i acc wt:Nat}{x:UInt8}(hi:i≤8)(hx:bs[at_+i]?=some x)(hge:128≤x.toNat) :
 lift acc wt i (iO (9-i) i (bs.drop (at_+i)))=lift (acc+x.toNat % 128 * wt) (wt * 128) (i+1) (iO (9-(i+1)) (i+1) (bs.drop (at_+(i+1)))):=by
 have hlt:=BO x;rw[w9 hx,show 9-i=9-(i+1)+1 from by omega,iO,if_neg (by omega),CH,Nat.mul_comm,show x.toNat-128=x.toNat % 128 from by omega,Nat.add_assoc]
theorem ow {bs:List UInt8}{at_ i acc wt:Nat}(hi:i≤8)(h:bs.length≤at_+i)(hI:iO 9 0 (bs.drop at_)=lift acc wt i (iO (9-i) i (bs.drop (at_+i)))):fp bs at_=(0,0,50):=by
 rw[List.drop_of_length_le h,show 9-i=8-i+1 from by omega]at hI;unfold fp;rw[hI];rfl
theorem qm {bs:List UInt8}{at_ i acc wt:Nat}{x:UInt8}(hi:i≤8)(hx:bs[at_+i]?=some x)(h0:x.toNat=0)(hi0:0<i)(hI:iO 9 0 (bs.drop at_)=lift acc wt i (iO (9-i) i (bs.drop (at_+i)))):fp bs at_=(0,0,51):=by
 rw[w9 hx,show 9-i=8-i+1 from by omega,iO,if_pos (by omega),if_pos ⟨h0,hi0⟩]at hI;unfold fp;rw[hI];rfl
theorem p8 {bs:List UInt8}{at_ i acc wt:Nat}{x:UInt8}(hi:i≤8)(hx:bs[at_+i]?=some x)(hlt:x.toNat<128)(h0:¬(x.toNat=0∧0<i))(hI:iO 9 0 (bs.drop at_)=lift acc wt i (iO (9-i) i (bs.drop (at_+i)))):fp bs at_=(acc+x.toNat * wt,at_+i+1,0):=by
 rw[w9 hx,show 9-i=8-i+1 from by omega,iO,if_pos hlt,if_neg h0]at hI;unfold fp;rw[hI];simp only[lift,if_true,Prod.mk.injEq,and_true];exact⟨by rw[Nat.mul_comm],by omega⟩
theorem uq {bs:List UInt8}{at_ acc wt:Nat}(hI:iO 9 0 (bs.drop at_)=lift acc wt 9 (iO 0 9 (bs.drop (at_+9)))):fp bs at_=(0,0,51):=by
 unfold fp;rw[hI];rfl
theorem D6 (bs:List UInt8)(at_:Nat):iO 9 0 (bs.drop at_)=lift 0 1 0 (iO (9-0) 0 (bs.drop (at_+0))):=(FX _ (Er 9 0 _)).symm
theorem Hy {acc wt x:Nat}(h:acc<wt)(hx:x<128):acc+x * wt<wt * 128:=by
 have h1:x * wt≤127 * wt:=Nat.mul_le_mul_right _ (by omega);omega
end Go.Proofs.YtkjabaihpkbfhaaGreat.Wk
namespace Go.Proofs.YtkjabaihpkbfhaaGreat.Wk
open Go Go.RowKit Go.Proofs.YtkjabaihpkbfhaaGreat Go.Proofs.YtkjabaihpkbfhaaGreat.K Go.Proofs.YtkjabaihpkbfhaaGreat.T
theorem kr (W w:World)(L:List As)(A:Option Addr)(c:Nat)(bs:List UInt8)(v:Nat)(hS:Sat W w (row 5 1 (.slice A (bs).length c) (bs).length ((bs).map an)::L))(hv:v≤9223372036854775807)(hb:bs.length≤140737488355000):Calls Tryz.prog 144 #[.slice A bs.length c,.int .i64 ((v:Nat):Int)] w fun e w'=>∃A' c',e=.returned (.slice A' (bs++aI v).length c')∧Sat W w' (row 5 1 (.slice A' (bs++aI v).length c') (bs++aI v).length ((bs++aI v).map an)::L):=by
 refine enter Tryz.func144 rfl rfl rfl (.cons (i:=0) rfl (.cons (i:=1) rfl .nil)) ?_;refine uC 7 ?_;intro a hA;refine wp_loop_ghost (fun (mm:Nat) a w=>∃(A':Option Addr) (c':Nat) (ds:List UInt8) (m:Nat),Ag a 21 [(0,.slice A' (bs++ds).length c'),(1,.int .i64 ((m:Nat):Int))]∧Sat W w (row 5 1 (.slice A' (bs++ds).length c') (bs++ds).length ((bs++ds).map an)::L)∧(ds++aI m=aI v)∧(m≤v)∧mm=m) v ?_ ?_
 ·replace hA:=hA.kp [0,1] rfl;rw[←List.append_nil bs]at hS hA;exact⟨_,_,[],v,hA,hS,(by rfl),(by omega),by omega⟩
 intro m a w hI;clear hS hA;obtain⟨A',c',ds,m,hA,hS,hm,hmv,rfl⟩:=hI;have h9:=bf hv;have hdl:=congrArg List.length hm;rw[List.length_append]at hdl;have hnp:=cE m;refine rC 4 hA ?_;clear hA a;refine aR 0 0 (eo rfl rfl) ?_ ?_
 ·intro h6;refine uO 10 ?_;refine u1 0 (ib rfl rfl (by omega) (by omega)) ?_;refine u1 0 (jv rfl pC oX (by omega) (by omega)) ?_;refine u1 0 (HY rfl rfl (by omega) (by omega)) ?_;intro a hA;refine nC hA rfl rfl bO mf rfl rfl rfl (by simp[Value.oneCell']) hS ?_;clear hA a hS;intro A12 w hS;intro a hA;refine dy hA rfl rfl rfl bO mf rfl (hS.p 1) (hS.rd.src bO (by simp[Value.oneCell'])) (by simp only[List.length_append];omega) (by simp only[List.length_append];omega) ?_;clear hA a hS;intro A13 c13 w hc13 hS;refine uO 5 ?_;refine u1 3 (kv rfl rfl (by omega) (by omega) (by omega)) ?_;intro a hA;replace hA:=hA.kp [0,1] rfl;have hge:=mS (n:=m) (by omega);have hnc:=lp (x:=m % 128+128) (by omega)
  have e1:(bs++ds).map an++[Value.int .u8 ((m:Int) % 128+128)]=(bs++(ds++[UInt8.ofNat (m % 128+128)])).map an:=by rw[show ((m:Int) % 128+128:Int)=((m % 128+128:Nat):Int) from by omega,hnc];simp
  have e2:(bs++ds).length+1=(bs++(ds++[UInt8.ofNat (m % 128+128)])).length:=by simp;try omega
  have e3:((m:Int) / 128)=((m / 128:Nat):Int):=by omega
  rw[e1,e2]at hS;rw[e2,e3]at hA;have e4:(ds++[UInt8.ofNat (m % 128+128)])++aI (m / 128)=aI v:=by rw[←hm,hge];simp
  have e5:=congrArg List.length e4;have e6:=cE (m / 128);simp only[List.length_append,List.length_cons,List.length_nil]at e5;exact⟨m / 128,by omega,_,_,ds++[UInt8.ofNat (m % 128+128)],m / 128,hA,(hS.p 1).drop,e4,by omega,rfl⟩
 ·intro h6;refine uO 12 ?_;refine u1 0 (jv rfl pC oX (by omega) (by omega)) ?_;intro a hA;refine nC hA rfl rfl bO mf rfl rfl rfl (by simp[Value.oneCell']) hS ?_;clear hA a hS;intro A19 w hS;intro a hA;refine dy hA rfl rfl rfl bO mf rfl (hS.p 1) (hS.rd.src bO (by simp[Value.oneCell'])) (by simp only[List.length_append];omega) (by simp only[List.length_append];omega) ?_;clear hA a hS;intro A20 c20 w hc20 hS;refine uO 4 ?_;refine aX ?_;have hlt:=fB (n:=m) (by omega);have hnc:=lp (x:=m) (by omega);have e1:(bs++ds).map an++[Value.int .u8 (m:Int)]=(bs++aI v).map an:=by rw[hnc,←hm,hlt];simp
  have e2:(bs++ds).length+1=(bs++aI v).length:=by rw[←hm,hlt];simp;try omega
  rw[e1,e2]at hS;rw[e2];exact⟨_,_,rfl,(hS.p 1).drop⟩
theorem qn (W:World)(v:Nat)(hv:v≤9223372036854775807):Calls Tryz.prog 85 #[.int .i64 ((v:Nat):Int)] W fun e w'=>∃A' c',e=.returned (.slice A' (aI v).length c')∧Sat W w' [row 5 1 (.slice A' (aI v).length c') (aI v).length ((aI v).map an)]:=by
 refine enter Tryz.func85 rfl rfl rfl (.cons (i:=0) rfl .nil) ?_;have hS:=Sat.start W;refine uC 12 ?_;intro a hA;refine wp_loop_ghost (fun (mm:Nat) a w=>∃(A':Option Addr) (c':Nat) (ds:List UInt8) (m:Nat),Ag a 20 [(0,.int .i64 ((m:Nat):Int)),(3,.slice A' ds.length c')]∧Sat W w ([row 5 1 (.slice A' (ds).length c') (ds).length ((ds).map an)])∧(ds++aI m=aI v)∧(m≤v)∧mm=m) v ?_ ?_
 ·replace hA:=hA.kp [0,3] rfl;replace hS:=hS.aY 5 1;exact⟨none,0,[],v,hA,hS,(by rfl),(by omega),by omega⟩
 intro m a w hI;clear hS hA;obtain⟨A',c',ds,m,hA,hS,hm,hmv,rfl⟩:=hI;have h9:=bf hv;have hdl:=congrArg List.length hm;rw[List.length_append]at hdl;have hnp:=cE m;refine rC 4 hA ?_;clear hA a;refine aR 0 0 (eo rfl rfl) ?_ ?_
 ·intro h5;refine uO 10 ?_;refine u1 0 (ib rfl rfl (by omega) (by omega)) ?_;refine u1 0 (ah rfl rfl (by omega) (by omega)) ?_;refine u1 0 (jv rfl pC oX (by omega) (by omega)) ?_;intro a hA;refine nC hA rfl rfl bO mf rfl rfl rfl (by simp[Value.oneCell']) hS ?_;clear hA a hS;intro A11 w hS;intro a hA;refine dy hA rfl rfl rfl bO mf rfl (hS.p 1) (hS.rd.src bO (by simp[Value.oneCell'])) (by omega) (by omega) ?_;clear hA a hS;intro A12 c12 w hc12 hS;refine uO 5 ?_;refine u1 3 (kv rfl rfl (by omega) (by omega) (by omega)) ?_;intro a hA;replace hA:=hA.kp [0,3] rfl;have hge:=mS (n:=m) (by omega);have hnc:=lp (x:=m % 128+128) (by omega);have e1:(ds).map an++[Value.int .u8 (128+(m:Int) % 128)]=((ds++[UInt8.ofNat (m % 128+128)])).map an:=by rw[show (128+(m:Int) % 128:Int)=((m % 128+128:Nat):Int) from by omega,hnc];simp
  have e2:(ds).length+1=((ds++[UInt8.ofNat (m % 128+128)])).length:=by simp;try omega
  have e3:((m:Int) / 128)=((m / 128:Nat):Int):=by omega
  rw[e1,e2]at hS;rw[e2,e3]at hA;have e4:(ds++[UInt8.ofNat (m % 128+128)])++aI (m / 128)=aI v:=by rw[←hm,hge];simp
  have e5:=congrArg List.length e4;have e6:=cE (m / 128);simp only[List.length_append,List.length_cons,List.length_nil]at e5;exact⟨m / 128,by omega,_,_,ds++[UInt8.ofNat (m % 128+128)],m / 128,hA,(hS.p 1).drop,e4,by omega,rfl⟩
 ·intro h5;refine uO 12 ?_;refine u1 0 (jv rfl pC oX (by omega) (by omega)) ?_;intro a hA;refine nC hA rfl rfl bO mf rfl rfl rfl (by simp[Value.oneCell']) hS ?_;clear hA a hS;intro A18 w hS;intro a hA;refine dy hA rfl rfl rfl bO mf rfl (hS.p 1) (hS.rd.src bO (by simp[Value.oneCell'])) (by omega) (by omega) ?_;clear hA a hS;intro A19 c19 w hc19 hS;refine uO 4 ?_;refine aX ?_;have hlt:=fB (n:=m) (by omega);have hnc:=lp (x:=m) (by omega);have e1:(ds).map an++[Value.int .u8 (m:Int)]=(aI v).map an:=by rw[hnc,←hm,hlt];simp
  have e2:(ds).length+1=(aI v).length:=by rw[←hm,hlt];simp;try omega
  rw[e1,e2]at hS;rw[e2];exact⟨_,_,rfl,(hS.p 1).drop⟩
theorem xT (W:World)(A:Option Addr)(c:Nat)(bs:List UInt8)(at_:Nat)(hR:Rd W 1 (.slice A bs.length c) bs.length (bs.map an))(hat:at_≤bs.length)(hb:bs.length≤140737488355328):Calls Tryz.prog 150 #[.slice A bs.length c,.int .i64 ((at_:Nat):Int)] W fun e w'=>e=.returned (.tuple #[.int .i64 (((fp bs at_).1:Nat):Int),.int .i64 (((fp bs at_).2.1:Nat):Int),.int .i64 (((fp bs at_).2.2:Nat):Int)])∧Sat W w' []:=by
 refine enter Tryz.func150 rfl rfl rfl (.cons (i:=0) rfl (.cons (i:=1) rfl .nil)) ?_;have hS:=Sat.start W;refine uC 19 ?_;intro a hA;refine wp_loop_ghost (fun (mm:Nat) a w=>∃(acc i wt:Nat),Ag a 47 [(0,.slice A bs.length c),(1,.int .i64 ((at_:Nat):Int)),(7,.int .i64 ((acc:Nat):Int)),(10,.int .i64 ((i:Nat):Int))]∧Sat W w ([])∧(i≤9)∧(acc<wt)∧(nJ wt i)∧(iO 9 0 (bs.drop at_)=lift acc wt i (iO (9-i) i (bs.drop (at_+i))))∧mm=9-i) 9 ?_ ?_
 ·replace hA:=hA.kp [0,1,7,10] rfl;exact⟨0,0,1,hA,hS,(by omega),(by omega),(by exact nJ.zero),(by exact D6 _ _),by omega⟩
 intro m a w hI;clear hS hA;obtain⟨acc,i,wt,hA,hS,hi,hac,hw,hI,rfl⟩:=hI;refine rC 2 hA ?_;clear hA a;refine aR 0 0 (aw rfl rfl) ?_ ?_
 ·intro h11;refine uO 19 ?_;refine u1 1 (ah rfl rfl (by omega) (by omega)) ?_;refine u1 0 (ar rfl bO) ?_;refine aR 0 0 (eo rfl rfl) ?_ ?_
  ·intro h18;refine uO 17 ?_;intro a hA;refine DV hA rfl rfl rfl rfl ?_
   first
    | (rw[ow (by omega) (by omega) hI];exact⟨rfl,hS⟩)
    | (rw[qm (by omega) hx' (by omega) (by omega) hI];exact⟨rfl,hS⟩)
    | (rw[p8 (by omega) hx' (by omega) (by omega) hI,show x.toNat % 128=x.toNat from by omega];exact⟨rfl,hS⟩)
    | (obtain rfl:i=9:=(by omega);rw[uq hI];exact⟨rfl,hS⟩)
  ·intro h18;refine uO 10 ?_;refine u1 0 (ah rfl rfl (by omega) (by omega)) ?_;obtain⟨A_p,rfl⟩:∃q,A=some q:=(hR.sat hS).av (by omega);obtain⟨x,hx⟩:∃zz_,bs[((at_:Int)+(i:Int)).toNat]?=some zz_:=⟨_,List.getElem?_eq_getElem (by omega)⟩;have hx':bs[at_+i]?=some x:=by rw[←hx];congr 1
   have hxl:=BO x;refine u1 0 (aj rfl rfl bO C3 (by omega) (by omega)) ?_;refine u1 7 (aq rfl DW (gb (hR.sat hS) (bu hx))) ?_;refine u1 0 (aJ (Kv rfl rfl) (congrArg (Value.int .u8) (Ho x))) ?_;refine u1 1 (pS rfl oX pC (by simp only[IntKind.min,IntKind.signed,IntKind.bits];omega) (by simp only[IntKind.max,IntKind.signed,IntKind.bits];omega)) ?_;refine u1 0 (Bs rfl rfl (by omega) (by omega)) ?_;refine u1 0 (aJ (HP rfl rfl (by omega)) (congrArg (Value.int .i64) (Lm (by omega) (by omega) hw))) ?_;refine u1 6 (aJ (K8 rfl rfl) (congrArg (Value.int .i64) (LS hac (by omega) (by omega) hw))) ?_;refine aR 0 0 (aw rfl rfl) ?_ ?_
   ·intro h34;refine uO 7 ?_;refine aR 0 0 (bn rfl rfl) ?_ ?_
    ·intro h36;refine uO 2 ?_;refine aR 0 0 (dv rfl rfl) ?_ ?_
     ·intro h39;refine uO 18 ?_;intro a hA;refine DV hA rfl rfl rfl rfl ?_
      first
       | (rw[ow (by omega) (by omega) hI];exact⟨rfl,hS⟩)
       | (rw[qm (by omega) hx' (by omega) (by omega) hI];exact⟨rfl,hS⟩)
       | (rw[p8 (by omega) hx' (by omega) (by omega) hI,show x.toNat % 128=x.toNat from by omega];exact⟨rfl,hS⟩)
       | (obtain rfl:i=9:=(by omega);rw[uq hI];exact⟨rfl,hS⟩)
     ·intro h39;refine uO 11 ?_;refine u1 0 (ah rfl rfl (by omega) (by omega)) ?_;refine u1 11 (ah rfl rfl (by omega) (by omega)) ?_;intro a hA;refine DV hA rfl rfl rfl rfl ?_
      first
       | (rw[ow (by omega) (by omega) hI];exact⟨rfl,hS⟩)
       | (rw[qm (by omega) hx' (by omega) (by omega) hI];exact⟨rfl,hS⟩)
       | (rw[p8 (by omega) hx' (by omega) (by omega) hI,show x.toNat % 128=x.toNat from by omega];exact⟨rfl,hS⟩)
       | (obtain rfl:i=9:=(by omega);rw[uq hI];exact⟨rfl,hS⟩)
    ·intro h36;refine uO 14 ?_;refine u1 0 (ah rfl rfl (by omega) (by omega)) ?_;refine u1 11 (ah rfl rfl (by omega) (by omega)) ?_;intro a hA;refine DV hA rfl rfl rfl rfl ?_
     first
      | (rw[ow (by omega) (by omega) hI];exact⟨rfl,hS⟩)
      | (rw[qm (by omega) hx' (by omega) (by omega) hI];exact⟨rfl,hS⟩)
      | (rw[p8 (by omega) hx' (by omega) (by omega) hI,show x.toNat % 128=x.toNat from by omega];exact⟨rfl,hS⟩)
      | (obtain rfl:i=9:=(by omega);rw[uq hI];exact⟨rfl,hS⟩)
   ·intro h34;refine uO 7 ?_;refine u1 2 (ah rfl rfl (by omega) (by omega)) ?_;intro a hA;replace hA:=hA.kp [0,1,7,10] rfl;have hm7:=HW (x:=x.toNat % 128) (by omega) hw (by omega);rw[show ((i:Int)+1)=((i+1:Nat):Int) from rfl]at hA;exact⟨9-(i+1),by omega,acc+x.toNat % 128 * wt,i+1,wt * 128,hA,hS,by omega,Hy hac (by omega),hw.succ,by rw[hI];exact Ft (by omega) hx' (by omega),rfl⟩
 ·intro h11;refine uO 17 ?_;intro a hA;refine DV hA rfl rfl rfl rfl ?_
  first
   | (rw[ow (by omega) (by omega) hI];exact⟨rfl,hS⟩)
   | (rw[qm (by omega) hx' (by omega) (by omega) hI];exact⟨rfl,hS⟩)
   | (rw[p8 (by omega) hx' (by omega) (by omega) hI,show x.toNat % 128=x.toNat from by omega];exact⟨rfl,hS⟩)
   | (obtain rfl:i=9:=(by omega);rw[uq hI];exact⟨rfl,hS⟩)
end Go.Proofs.YtkjabaihpkbfhaaGreat.Wk
namespace Go.Proofs.YtkjabaihpkbfhaaGreat.Wk
open Go Go.RowKit Go.Proofs.YtkjabaihpkbfhaaGreat Go.Proofs.YtkjabaihpkbfhaaGreat.K
def gO (bs:List UInt8)(i:Nat)(mo:Int):Nat×Nat×Nat:=if (fp bs i).2.2≠0 then (0,0,(fp bs i).2.2) else if mo<((fp bs i).1:Int) then (0,0,51) else ((fp bs i).1,(fp bs i).2.1,0)
theorem sZ {bs:List UInt8}{i:Nat}{mo:Int}(h:(fp bs i).2.2≠0):gO bs i mo=(0,0,(fp bs i).2.2):=if_pos h
theorem ug {bs:List UInt8}{i:Nat}{mo:Int}(h:(fp bs i).2.2=0)(h2:mo<((fp bs i).1:Int)):gO bs i mo=(0,0,51):=by unfold gO;rw[if_neg (by omega),if_pos h2]
theorem u5 {bs:List UInt8}{i:Nat}{mo:Int}(h:(fp bs i).2.2=0)(h2:((fp bs i).1:Int)≤mo):gO bs i mo=((fp bs i).1,(fp bs i).2.1,0):=by unfold gO;rw[if_neg (by omega),if_neg (by omega)]
theorem B0 {bs:List UInt8}{i:Nat}{mo:Int}(hi:i≤bs.length):(gO bs i mo).2.2≠0∨((gO bs i mo).2.2=0∧i<(gO bs i mo).2.1∧(gO bs i mo).2.1≤bs.length∧(gO bs i mo).1≤9223372036854775807):=by
 unfold gO
 by_cases h:(fp bs i).2.2=0
 ·
  obtain⟨k1,k2,k3,k4,k5,k6⟩:=rM h;rw[if_neg (by omega)]
  split
  ·
   simp
  ·
   simp;omega
 ·
  rw[if_pos h];simp[h]
def nD (bs:List UInt8)(i:Nat)(mo:Int):List UInt8×Nat×Nat:=if (gO bs i mo).2.2≠0 then ([],0,(gO bs i mo).2.2) else if bs.length-(gO bs i mo).2.1<(gO bs i mo).1 then ([],0,50) else ((bs.drop (gO bs i mo).2.1).take (gO bs i mo).1,(gO bs i mo).2.1+(gO bs i mo).1,0)
theorem sT {bs:List UInt8}{i:Nat}{mo:Int}(h:(gO bs i mo).2.2≠0):nD bs i mo=([],0,(gO bs i mo).2.2):=if_pos h
theorem oI {bs:List UInt8}{i:Nat}{mo:Int}(h:(gO bs i mo).2.2=0)(h2:bs.length-(gO bs i mo).2.1<(gO bs i mo).1):nD bs i mo=([],0,50):=by unfold nD;rw[if_neg (by omega),if_pos h2]
theorem tK {bs:List UInt8}{i:Nat}{mo:Int}(h:(gO bs i mo).2.2=0)(h2:(gO bs i mo).1≤bs.length-(gO bs i mo).2.1):nD bs i mo=((bs.drop (gO bs i mo).2.1).take (gO bs i mo).1,(gO bs i mo).2.1+(gO bs i mo).1,0):=by unfold nD;rw[if_neg (by omega),if_neg (by omega)]
theorem BH {bs:List UInt8}{i:Nat}{mo:Int}:(nD bs i mo).1.length≤bs.length:=by
 unfold nD
 (repeat' split)
 ·
  simp
 ·
  simp
 ·
  simp;omega
theorem Ev {w:World}{A:Option Addr}{c:Nat}{bs:List UInt8}(h:Rd w 1 (.slice A bs.length c) bs.length (bs.map an))(i n:Nat)(hi:i+n≤bs.length) :
 Rd w 1 (.slice (ja A c 1 i) ((bs.drop i).take n).length (c-i)) ((bs.drop i).take n).length (((bs.drop i).take n).map an):=by
 have h':=h.cut i (i+n) (by omega) hi;have e:((bs.drop i).take n).length=i+n-i:=by simp;omega
 rw[e]
 have e2:((bs.map an).drop (i * 1)).take ((i+n-i) * 1)=((bs.drop i).take n).map an:=by
  rw[List.map_take,List.map_drop,Nat.mul_one,Nat.mul_one];congr 1;omega
 rw[e2]at h';exact h'
theorem CD {A:Option Addr}{c:Nat}{bs:List UInt8}{i j n:Nat}(hj:j=i+n)(hn:j≤bs.length):(Value.slice (ja A c 1 ((i:Int)).toNat) (((j:Int)).toNat-((i:Int)).toNat) (c-((i:Int)).toNat))=.slice (ja A c 1 i) ((bs.drop i).take n).length (c-i):=by
 subst hj;have:((bs.drop i).take n).length=n:=by simp;omega
 rw[this];simp;omega
def str (bs:List UInt8):ByteArray:=⟨bs.toArray⟩
theorem nW (bs:List UInt8):(str bs).data.toList=bs:=rfl
end Go.Proofs.YtkjabaihpkbfhaaGreat.Wk
namespace Go.Proofs.YtkjabaihpkbfhaaGreat.Wk
open Go Go.RowKit Go.Proofs.YtkjabaihpkbfhaaGreat Go.Proofs.YtkjabaihpkbfhaaGreat.K Go.Proofs.YtkjabaihpkbfhaaGreat.T
theorem nT (W:World)(A:Option Addr)(c:Nat)(bs:List UInt8)(hR:Rd W 1 (.slice A bs.length c) bs.length (bs.map an))(hn:bs.length≤140737488355328):Calls Tryz.prog 146 #[.slice A bs.length c] W fun e w'=>∃A' c',e=.returned (.slice A' bs.length c')∧Sat W w' [row 5 1 (.slice A' (bs).length c') (bs).length ((bs).map an)]:=by
 refine enter Tryz.func146 rfl rfl rfl (.cons (i:=0) rfl .nil) ?_;have hS:=Sat.start W;refine uC 9 ?_;refine nb 0 0 (AI rfl rfl bO) ?_ ?_
 ·intro h4;refine uO 10 ?_;refine aX ?_;obtain rfl:A=none:=by simpa using h4
  obtain⟨h1,h2⟩:=hR.nil;obtain rfl:bs=[]:=List.eq_nil_of_length_eq_zero h1;exact⟨none,0,rfl,hS.aY _ _⟩
 ·intro h4;refine uO 7 ?_;intro a hA;refine F6 hA rfl bO mf hS ?_;clear hA a hS;intro A5 w hS;refine uO 1 ?_;intro a hA;refine dy hA rfl rfl rfl bO mf rfl hS ((hR.sat hS).src bO (tL bs)) (by omega) (by omega) ?_;clear hA a hS;intro A7 c7 w hc7 hS;refine uO 4 ?_;refine aX ?_;simp only[Nat.zero_add,List.nil_append]at hS ⊢;exact⟨_,_,rfl,hS⟩
theorem uE (W w:World)(L:List As)(A:Option Addr)(c:Nat)(bs:List UInt8)(B:Option Addr)(d:Nat)(b:List UInt8)(hS:Sat W w (row 5 1 (.slice A (bs).length c) (bs).length ((bs).map an)::L))(hR:∀w' M,Sat W w' (M::L)→Rd w' 1 (.slice B b.length d) b.length (b.map an))(hl:bs.length+b.length≤140737488354000):Calls Tryz.prog 145 #[.slice A bs.length c,.slice B b.length d] w fun e w'=>∃A' c',e=.returned (.slice A' (bs++(aI b.length++b)).length c')∧Sat W w' (row 5 1 (.slice A' (bs++(aI b.length++b)).length c') (bs++(aI b.length++b)).length ((bs++(aI b.length++b)).map an)::L):=by
 refine enter Tryz.func145 rfl rfl rfl (.cons (i:=0) rfl (.cons (i:=1) rfl .nil)) ?_;refine uC 9 ?_;refine u1 0 (ar rfl bO) ?_;refine uF Bp rfl (kr _ _ _ _ _ _ b.length hS (by omega) (by omega)) ?_;clear hS;rintro e w ⟨A1,c1,rfl,hS⟩;have h9:=bf (n:=b.length) (by omega);have h8:(bs++aI b.length).length=bs.length+(aI b.length).length:=by simp
 refine⟨_,rfl,?_⟩;refine uO 1 ?_;intro a hA;refine dy hA rfl rfl rfl bO mf rfl hS ((hR _ _ hS).src bO (tL b)) (by omega) (by omega) ?_;clear hA a hS;intro A10 c10 w hc10 hS;refine uO 4 ?_;refine aX ?_;have e1:(bs++aI b.length).length+b.length=(bs++(aI b.length++b)).length:=by simp;omega
 rw[e1,←List.map_append,List.append_assoc]at hS;rw[e1];exact⟨_,_,rfl,hS⟩
theorem vP (W w:World)(L:List As)(A:Option Addr)(c:Nat)(bs:List UInt8)(s:ByteArray)(hS:Sat W w (row 5 1 (.slice A (bs).length c) (bs).length ((bs).map an)::L))(hl:bs.length+s.size≤140737488354000):Calls Tryz.prog 412 #[.slice A bs.length c,.string s] w fun e w'=>∃A' c',e=.returned (.slice A' (bs++(aI s.data.toList.length++s.data.toList)).length c')∧Sat W w' (row 5 1 (.slice A' (bs++(aI s.data.toList.length++s.data.toList)).length c') (bs++(aI s.data.toList.length++s.data.toList)).length ((bs++(aI s.data.toList.length++s.data.toList)).map an)::L):=by
 refine enter Tryz.func412 rfl rfl rfl (.cons (i:=0) rfl (.cons (i:=1) rfl .nil)) ?_;have hsz:s.data.toList.length=s.size:=rfl;refine uC 9 ?_;refine u1 0 (hP rfl xu) ?_;refine uF Bp rfl (kr _ _ _ _ _ _ s.size hS (by omega) (by omega)) ?_;clear hS;rintro e w ⟨A1,c1,rfl,hS⟩;have h9:=bf (n:=s.size) (by omega);have h8:(bs++aI s.size).length=bs.length+(aI s.size).length:=by simp
 refine⟨_,rfl,?_⟩;refine uO 1 ?_;intro a hA;refine dy hA rfl rfl rfl bO mf rfl hS (Src.ofString _ xu s) (by omega) (by omega) ?_;clear hA a hS;intro A10 c10 w hc10 hS;refine uO 4 ?_;refine aX ?_;have e1:(bs++aI s.size).length+s.size=(bs++(aI s.data.toList.length++s.data.toList)).length:=by simp[hsz];omega
 rw[e1,xn,←List.map_append,List.append_assoc]at hS;rw[e1];exact⟨_,_,rfl,hS⟩
end Go.Proofs.YtkjabaihpkbfhaaGreat.Wk
namespace Go.Proofs.YtkjabaihpkbfhaaGreat.Wk
open Go Go.RowKit Go.Proofs.YtkjabaihpkbfhaaGreat Go.Proofs.YtkjabaihpkbfhaaGreat.K
def pb (kd n:Int)(b:Bool)(s:ByteArray):List UInt8×Bool:=
 if kd=1 then (if n<0 then ([],false) else (aI n.toNat,true))
 else if kd=2 then ([if b then 1 else 0],true)
 else if kd=3∨kd=4 then (aI s.data.toList.length++s.data.toList,true)
 else ([],true)
theorem FW {n:Int}{b:Bool}{s:ByteArray}(h:n<0):pb 1 n b s=([],false):=by unfold pb;rw[if_pos rfl,if_pos h]
theorem p5 {n:Int}{b:Bool}{s:ByteArray}(h:¬n<0):pb 1 n b s=(aI n.toNat,true):=by unfold pb;rw[if_pos rfl,if_neg h]
theorem GX {kd n:Int}{b:Bool}{s:ByteArray}(h:kd=3∨kd=4):pb kd n b s=(aI s.data.toList.length++s.data.toList,true):=by unfold pb;rw[if_neg (by omega),if_neg (by omega),if_pos h]
def Gw (p:Nat)(A:Option Addr)(c:Nat)(bs:List UInt8)(bad:Bool):As:=a8 p (.cells #[.slice A bs.length c,.bool bad] 263)
end Go.Proofs.YtkjabaihpkbfhaaGreat.Wk
namespace Go.Proofs.YtkjabaihpkbfhaaGreat.Wk
open Go Go.RowKit Go.Proofs.YtkjabaihpkbfhaaGreat Go.Proofs.YtkjabaihpkbfhaaGreat.K Go.Proofs.YtkjabaihpkbfhaaGreat.T
theorem eP (W:World)   : Calls Tryz.prog 89 #[] W fun e w'=>∃p,e=.returned (.pointer (some ⟨p,0,none⟩))∧Sat W w' [Gw p none 0 ([]) false]:=by
 refine enter Tryz.func89 rfl rfl rfl .nil ?_;have hS:=Sat.start W;refine uC 7 ?_;intro a hA;refine o1 0 hA (aP hA rfl HN) ?_;clear hA a;refine uB rfl hS ?_;clear hS;intro b2 w hS;refine uO 4 ?_;refine aX ?_;exact⟨_,rfl,hS⟩
theorem fw (W w:World)(L:List As)(p:Nat)(A:Option Addr)(c:Nat)(bs:List UInt8)(bad:Bool)(n:Int)(hS:Sat W w (Gw p A c (bs) bad::row 5 1 (.slice A (bs).length c) (bs).length ((bs).map an)::L))(hl:bs.length≤140737488350000)(hn:n≤9223372036854775807):Calls Tryz.prog 90 #[.pointer (some ⟨p,0,none⟩),.int .i64 n] w fun e w'=>e=.returned (.tuple #[])∧∃A' c',Sat W w' (Gw p A' c' (bs++(pb 1 n false .empty).1) (bad || !(pb 1 n false .empty).2)::row 5 1 (.slice A' (bs++(pb 1 n false .empty).1).length c') (bs++(pb 1 n false .empty).1).length ((bs++(pb 1 n false .empty).1).map an)::L):=by
 refine enter Tryz.func90 rfl rfl rfl (.cons (i:=0) rfl (.cons (i:=1) rfl .nil)) ?_;intro a hA;change Sat W w (a8 p (.cells #[.slice A bs.length c,.bool bad] 263)::_) at hS;refine rC 4 hA ?_;clear hA a;refine nb 0 0 (tN rfl rfl wy) ?_ ?_
 ·intro h5;intro a hA;contradiction
 ·intro h5;refine uO 9 ?_;refine aR 0 0 (aw rfl rfl) ?_ ?_
  ·intro h7;refine uO 6 ?_;refine u1 0 (a7 rfl) ?_;refine u1 0 (aa rfl sY) ?_;intro a hA;refine mP hA rfl rfl Dz GO rfl hS rfl ?_;clear hS;intro w hS;refine rO 4 hA ?_;clear hA a;intro a hA;refine jg hA rfl  ?_
   first
    | (rw[FW (by omega)];refine⟨rfl,A,c,?_⟩;simp only[List.append_nil,Bool.not_false,Bool.or_true];exact hS)
    | (rw[p5 (by omega),Int.toNat_natCast];refine⟨rfl,A1,c1,?_⟩;simp only[Bool.not_true,Bool.or_false];exact hS)
  ·intro h7;refine uO 8 ?_;refine u1 0 (a7 rfl) ?_;refine u1 0 (aa rfl jo) ?_;refine u1 0 (ld rfl fZ) ?_;obtain⟨m,rfl⟩:=Int.eq_ofNat_of_zero_le (show 0≤n by omega);refine uO 1 ?_;refine uF Bp rfl (kr _ _ _ _ _ _ m (hS.p 1) (by omega) (by omega)) ?_;clear hS;rintro e w ⟨A1,c1,rfl,hS⟩;refine⟨_,rfl,?_⟩;refine u1 0 (a7 rfl) ?_;refine u1 0 (aa rfl jo) ?_;intro a hA;refine mP hA rfl rfl fZ jz rfl (hS.p 1) rfl ?_;clear hS;intro w hS;refine rO 1 hA ?_;clear hA a;intro a hA;refine fM (e:=.ret) ?_;refine jg hA rfl  ?_
   first
    | (rw[FW (by omega)];refine⟨rfl,A,c,?_⟩;simp only[List.append_nil,Bool.not_false,Bool.or_true];exact hS)
    | (rw[p5 (by omega),Int.toNat_natCast];refine⟨rfl,A1,c1,?_⟩;simp only[Bool.not_true,Bool.or_false];exact hS)
theorem jx (W w:World)(L:List As)(p:Nat)(A:Option Addr)(c:Nat)(bs:List UInt8)(bad:Bool)(s:ByteArray)(B:Option Addr)(d:Nat)(hS:Sat W w (Gw p A c (bs) bad::row 5 1 (.slice A (bs).length c) (bs).length ((bs).map an)::L))(hl:bs.length≤140737488350000)(hR:∀w' M N,Sat W w' (M::N::L)→Rd w' 1 (.slice B s.data.toList.length d) s.data.toList.length (s.data.toList.map an))(hl2:bs.length+s.data.toList.length≤140737488350000):Calls Tryz.prog 91 #[.pointer (some ⟨p,0,none⟩),.slice B s.data.toList.length d] w fun e w'=>e=.returned (.tuple #[])∧∃A' c',Sat W w' (Gw p A' c' (bs++(pb 4 0 false s).1) bad::row 5 1 (.slice A' (bs++(pb 4 0 false s).1).length c') (bs++(pb 4 0 false s).1).length ((bs++(pb 4 0 false s).1).map an)::L):=by
 refine enter Tryz.func91 rfl rfl rfl (.cons (i:=0) rfl (.cons (i:=1) rfl .nil)) ?_;intro a hA;change Sat W w (a8 p (.cells #[.slice A bs.length c,.bool bad] 263)::_) at hS;refine rC 3 hA ?_;clear hA a;refine nb 0 0 (D2 rfl rfl wy) ?_ ?_
 ·intro h5;refine uO 6 ?_;refine u1 0 (a7 rfl) ?_;refine u1 0 (aa rfl jo) ?_;refine u1 1 (ld rfl fZ) ?_;refine uF KN rfl (uE _ _ _ _ _ _ B d s.data.toList (hS.p 1) (fun w' M s=>hR w' M _ s) (by omega)) ?_;clear hS;rintro e w ⟨A1,c1,rfl,hS⟩;refine⟨_,rfl,?_⟩;refine u1 0 (a7 rfl) ?_;refine u1 0 (aa rfl jo) ?_;intro a hA;refine mP hA rfl rfl fZ jz rfl (hS.p 1) rfl ?_;clear hS;intro w hS;refine rO 1 hA ?_;clear hA a;intro a hA;refine fM (e:=.ret) ?_;refine jg hA rfl  ?_;exact⟨rfl,_,_,hS⟩
 ·intro h5;intro a hA;contradiction
theorem pP (W:World)(W0:World)(L:List As)(p:Nat)(A:Option Addr)(c:Nat)(bs:List UInt8)(bad:Bool)(s0:Sat W0 W (Gw p A c (bs) bad::L))(hR:Rd W 1 (.slice A bs.length c) bs.length (bs.map an))(hl:bs.length≤140737488350000):Calls Tryz.prog 92 #[.pointer (some ⟨p,0,none⟩)] W fun e w'=>∃A' c',e=.returned (.tuple #[.slice A' (if bad then [] else bs).length c',.int .i64 (((if bad then 2 else 0):Nat):Int)])∧Sat W w' [row 5 1 (.slice A' (if bad then [] else bs).length c') (if bad then [] else bs).length ((if bad then [] else bs).map an)]:=by
 refine enter Tryz.func92 rfl rfl rfl (.cons (i:=0) rfl .nil) ?_;have hS:=Sat.start W;intro a hA;change Sat W0 W (a8 p (.cells #[.slice A bs.length c,.bool bad] 263)::L) at s0;refine rC 10 hA ?_;clear hA a;refine nb 0 0 (tN rfl rfl wy) ?_ ?_
 ·intro h5;intro a hA;contradiction
 ·intro h5;refine uO 2 ?_;refine u1 0 (a7 rfl) ?_;refine u1 0 (aa rfl sY) ?_;refine u1 0 (aq rfl Dz (s0.qv hS rfl)) ?_;refine nb 0 0 (uf rfl rfl) ?_ ?_
  ·intro h11;refine uO 11 ?_;refine fy ?_
   first
    | (subst h11;exact⟨none,0,rfl,hS.aY 5 1⟩)
    | (subst h11;exact⟨_,_,rfl,hS⟩)
  ·intro h11;refine uO 8 ?_;refine u1 0 (a7 rfl) ?_;refine u1 0 (aa rfl jo) ?_;refine u1 0 (aq rfl fZ (s0.qv hS rfl)) ?_;refine uF DM rfl (nT _ _ _ bs (hR.sat hS) (by omega)) ?_;rintro e w ⟨A1,c1,rfl,hT⟩;replace hS:=hS.aB hT;clear hT;refine⟨_,rfl,?_⟩;refine uO 5 ?_;refine fy ?_
   first
    | (subst h11;exact⟨none,0,rfl,hS.aY 5 1⟩)
    | (subst h11;exact⟨_,_,rfl,hS⟩)
end Go.Proofs.YtkjabaihpkbfhaaGreat.Wk
namespace Go.Proofs.YtkjabaihpkbfhaaGreat.Wk
open Go Go.RowKit Go.Proofs.YtkjabaihpkbfhaaGreat Go.Proofs.YtkjabaihpkbfhaaGreat.K
def gY (r:Nat)(A:Option Addr)(c:Nat)(bs:List UInt8)(at_:Int)(live:Bool)(err:Int):As:=a8 r (.cells #[.slice A bs.length c,.int .i64 at_,.bool live,.int .i64 err] 269)
def Ch (bs:List UInt8)(i:Nat)(each:Int):Nat×Nat×Nat:=if (fp bs i).2.2≠0 then (0,0,(fp bs i).2.2) else if ((bs.length:Int)-((fp bs i).2.1:Int)) / max each 1<((fp bs i).1:Int) then (0,0,50) else ((fp bs i).1,(fp bs i).2.1,0)
theorem Bh {bs:List UInt8}{i:Nat}{each:Int}(h:(fp bs i).2.2≠0):Ch bs i each=(0,0,(fp bs i).2.2):=if_pos h
theorem wT {bs:List UInt8}{i:Nat}{each:Int}(h:(fp bs i).2.2=0)(h2:((bs.length:Int)-((fp bs i).2.1:Int)) / max each 1<((fp bs i).1:Int)):Ch bs i each=(0,0,50):=by unfold Ch;rw[if_neg (by omega),if_pos h2]
theorem Aq {bs:List UInt8}{i:Nat}{each:Int}(h:(fp bs i).2.2=0)(h2:¬((bs.length:Int)-((fp bs i).2.1:Int)) / max each 1<((fp bs i).1:Int)):Ch bs i each=((fp bs i).1,(fp bs i).2.1,0):=by unfold Ch;rw[if_neg (by omega),if_neg h2]
theorem xK {bs:List UInt8}{i:Nat}:(gO bs i 9223372036854775807).2.2=(fp bs i).2.2∧((fp bs i).2.2=0→(gO bs i 9223372036854775807).1=(fp bs i).1∧(gO bs i 9223372036854775807).2.1=(fp bs i).2.1):=by
 by_cases h:(fp bs i).2.2=0
 ·
  have:=(rM h).2.2.1;rw[u5 h (by omega)];exact⟨h.symm,fun _=>⟨rfl,rfl⟩⟩
 ·
  rw[sZ h];exact⟨rfl,fun h'=>absurd h' h⟩
theorem BW {w:World}{A:Option Addr}{c:Nat}{bs:List UInt8}{i:Nat}{mo:Int}(h:Rd w 1 (.slice A bs.length c) bs.length (bs.map an))(hi:i≤bs.length)(h0:(nD bs i mo).2.2=0) :
 Rd w 1 (.slice (ja A c 1 (gO bs i mo).2.1) (nD bs i mo).1.length (c-(gO bs i mo).2.1)) (nD bs i mo).1.length ((nD bs i mo).1.map an):=by
 rcases B0 (mo:=mo) hi with hu | ⟨hu,h1,h2,h3⟩
 ·
  rw[sT hu]at h0;exact absurd h0 hu
 ·
  by_cases h4:(gO bs i mo).1≤bs.length-(gO bs i mo).2.1
  ·
   rw[tK hu h4];exact Ev h _ _ (by omega)
  ·
   rw[oI hu (by omega)]at h0;cases h0
end Go.Proofs.YtkjabaihpkbfhaaGreat.Wk
namespace Go.Proofs.YtkjabaihpkbfhaaGreat.Wk
open Go Go.RowKit Go.Proofs.YtkjabaihpkbfhaaGreat Go.Proofs.YtkjabaihpkbfhaaGreat.K Go.Proofs.YtkjabaihpkbfhaaGreat.T
theorem jM (W:World)(W0:World)(L:List As)(r:Nat)(A:Option Addr)(c:Nat)(bs:List UInt8)(at_:Int)(live:Bool)(err:Int)(s0:Sat W0 W (gY r A c bs at_ live err::L))(he:err=0):Calls Tryz.prog 149 #[.pointer (some ⟨r,0,none⟩)] W fun e w'=>e=.returned (.bool live)∧Sat W w' []:=by
 refine enter Tryz.func149 rfl rfl rfl (.cons (i:=0) rfl .nil) ?_;have hS:=Sat.start W;intro a hA;change Sat W0 W (a8 r (.cells #[.slice A bs.length c,.int .i64 at_,.bool live,.int .i64 err] 269)::L) at s0;subst he;refine rC 9 hA ?_;clear hA a;refine nb 0 0 (tN rfl rfl Es) ?_ ?_
 ·intro h4;intro a hA;contradiction
 ·intro h4;refine uO 2 ?_;refine u1 0 (a7 rfl) ?_;refine u1 0 (aa rfl nh) ?_;refine u1 0 (aq rfl Dz (s0.qv hS rfl)) ?_;refine nb 0 0 (aM rfl) ?_ ?_
  ·intro h10;intro a hA;simp only[decide_eq_decide,decide_eq_true_eq,decide_eq_false_iff_not,Bool.not_eq_true',Bool.not_eq_false',bne_iff_ne,ne_eq,beq_iff_eq,Bool.not_eq_true,Bool.not_eq_false]at h10;refine rO 11 hA ?_;clear hA a;refine aX ?_
   first
    | (subst h9;exact⟨rfl,hS⟩)
    | (cases live<;>first | exact⟨rfl,hS⟩ | simp_all)
  ·intro h10;intro a hA;simp only[decide_eq_decide,decide_eq_true_eq,decide_eq_false_iff_not,Bool.not_eq_true',Bool.not_eq_false',bne_iff_ne,ne_eq,beq_iff_eq,Bool.not_eq_true,Bool.not_eq_false]at h10;refine rO 10 hA ?_;clear hA a;refine u1 0 (a7 rfl) ?_;refine u1 0 (aa rfl fV) ?_;refine u1 0 (aq rfl jf (s0.qv hS rfl)) ?_;refine aR 0 0 (aK rfl rfl) ?_ ?_
   ·intro h16;intro a hA;contradiction
   ·intro h16;refine uO 11 ?_;refine aX ?_
    first
     | (subst h9;exact⟨rfl,hS⟩)
     | (cases live<;>first | exact⟨rfl,hS⟩ | simp_all)
theorem jl (W w:World)(L:List As)(r:Nat)(A:Option Addr)(c:Nat)(bs:List UInt8)(at_:Nat)(er:Int)(hS:Sat W w (gY r A c bs at_ true 0::L))  : Calls Tryz.prog 151 #[.pointer (some ⟨r,0,none⟩),.int .i64 er] w fun e w'=>xS (.iface 271 (.agg #[.pointer (some ⟨r,0,none⟩)])) e∧Sat W w' (gY r A c bs at_ true er::L):=by
 refine enter Tryz.func151 rfl rfl rfl (.cons (i:=0) rfl (.cons (i:=1) rfl .nil)) ?_;intro a hA;change Sat W w (a8 r (.cells #[.slice A bs.length c,.int .i64 (at_:Int),.bool true,.int .i64 0] 269)::L) at hS;refine rC 4 hA ?_;clear hA a;refine u1 0 (a7 rfl) ?_;refine u1 0 (aa rfl fV) ?_;intro a hA;refine mP hA rfl rfl jf rF rfl hS rfl ?_;clear hS;intro w hS;refine rO 4 hA ?_;clear hA a;intro a hA;refine o1 0 hA (aP hA rfl FU) ?_;clear hA a;refine u1 0 (zC rfl vd) ?_;intro a hA;refine Ja hA rfl ?_;refine de hA ?_;exact⟨xS.one _,hS⟩
theorem pR (W w:World)(L:List As)(r:Nat)(A:Option Addr)(c:Nat)(bs:List UInt8)(at_:Nat)(mo:Int)(hS:Sat W w (gY r A c bs at_ true 0::L))(hat:at_≤bs.length)(hb:bs.length≤140737488355328)(hR:∀w,Sat W w L→Rd w 1 (.slice A bs.length c) bs.length (bs.map an)):Calls Tryz.prog 100 #[.pointer (some ⟨r,0,none⟩),.int .i64 mo] w fun e w'=>(((gO bs at_ mo).2.2=0)∧e=.returned (.int .i64 (((gO bs at_ mo).1:Nat):Int))∧Sat W w' (gY r A c bs ((gO bs at_ mo).2.1:Nat) true 0::L))∨(((gO bs at_ mo).2.2≠0)∧xS (.iface 271 (.agg #[.pointer (some ⟨r,0,none⟩)])) e∧∃at',Sat W w' (gY r A c bs at' true ((gO bs at_ mo).2.2:Nat)::L)):=by
 refine enter Tryz.func100 rfl rfl rfl (.cons (i:=0) rfl (.cons (i:=1) rfl .nil)) ?_;intro a hA;change Sat W w (a8 r (.cells #[.slice A bs.length c,.int .i64 (at_:Int),.bool true,.int .i64 0] 269)::L) at hS;refine rC 9 hA ?_;clear hA a;refine uF zd rfl (jM _ _ _ r A c bs at_ true 0 hS rfl) ?_;rintro e w ⟨rfl,hT⟩;replace hS:Sat _ _ (_::_):=hS.ai hT;clear hT;refine⟨_,rfl,?_⟩;refine nb 0 0 (aM rfl) ?_ ?_
 ·intro h10;intro a hA;simp only[decide_eq_decide,decide_eq_true_eq,decide_eq_false_iff_not,Bool.not_eq_true',Bool.not_eq_false',bne_iff_ne,ne_eq,beq_iff_eq,Bool.not_eq_true,Bool.not_eq_false]at h10;contradiction
 ·intro h10;intro a hA;simp only[decide_eq_decide,decide_eq_true_eq,decide_eq_false_iff_not,Bool.not_eq_true',Bool.not_eq_false',bne_iff_ne,ne_eq,beq_iff_eq,Bool.not_eq_true,Bool.not_eq_false]at h10;refine rO 6 hA ?_;clear hA a;intro a hA;refine bh [8] hS (by kernel_rfl) ?_;replace hS:=hS.drew;refine rX [0] hA ?_;clear hA a;refine bz 1 [] rfl (fun w=>(a7 rfl)) ?_;refine bz 2 [] rfl (fun w=>(aa rfl gC)) ?_;refine cT 3 [4] rfl (by exact⟨[],hS⟩) (fun w hT=>have hS:=hT.sat;(ld rfl fZ)) ?_;refine bz 5 [] rfl (fun w=>(a7 rfl)) ?_;refine bz 6 [] rfl (fun w=>(aa rfl iS)) ?_;refine cT 7 [] rfl (by exact⟨[],hS⟩) (fun w hT=>have hS:=hT.sat;(ld rfl aQ)) ?_;intro a hA;refine aG 8 (by kernel_rfl) ?_;refine eF hA rfl rfl H8 rfl (xT _ A c bs at_ (hR _ hS.drop) hat hb) ?_
  clear hA a;rintro e w ⟨rfl,hT⟩;replace hS:Sat _ _ (_::_):=hS.ai hT;clear hT;refine⟨_,rfl,?_⟩;intro a hA;refine⟨.inl rfl,?_⟩;refine rX [9] hA ?_;clear hA a;refine bz 10 [] rfl (fun w=>(au rfl rfl)) ?_;refine bz 11 [] rfl (fun w=>(au rfl rfl)) ?_;refine bz 12 [13,14,15] rfl (fun w=>(au rfl rfl)) ?_;intro a hA;refine ak (by kernel_rfl) ?_ _;refine rE 5 hA ?_;clear hA a;refine aR 0 0 (aK rfl rfl) ?_ ?_
  ·intro h25;refine uO 6 ?_;intro a hA;refine dY hA rfl wI rfl (jl _ _ _ r _ c bs at_ _ hS) ?_;rintro e w ⟨⟨older,rfl,ho⟩,hS⟩
   ·refine .inr ⟨_,rfl,?_⟩;refine rE 1 hA ?_;clear hA a;intro a hA;refine de hA ?_;have hu:=sZ (mo:=mo) (show (fp bs at_).2.2≠0 by omega);rw[hu];exact .inr ⟨(by omega:(fp bs at_).2.2≠0),⟨older,rfl,ho⟩,_,hS⟩
  ·intro h25;refine uO 5 ?_;intro a hA;replace hA:=hA.kp [0,1,4,5,6] rfl;refine rC 5 hA ?_;clear hA a;refine aR 0 0 (dv rfl rfl) ?_ ?_
   ·intro h31;refine uO 5 ?_;intro a hA;refine dY hA rfl wI rfl (jl _ _ _ r _ c bs at_ 51 hS) ?_;rintro e w ⟨⟨older,rfl,ho⟩,hS⟩
    ·refine .inr ⟨_,rfl,?_⟩;refine rE 1 hA ?_;clear hA a;intro a hA;refine de hA ?_;have hu:=ug (mo:=mo) (show (fp bs at_).2.2=0 by omega) (by omega);rw[hu];exact .inr ⟨(by decide:(51:Nat)≠0),⟨older,rfl,ho⟩,_,hS⟩
   ·intro h31;refine uO 9 ?_;refine u1 0 (a7 rfl) ?_;refine u1 0 (aa rfl iS) ?_;intro a hA;refine mP hA rfl rfl aQ fQ rfl hS rfl ?_;clear hS;intro w hS;refine rO 9 hA ?_;clear hA a;refine aX ?_;have hu:=u5 (mo:=mo) (show (fp bs at_).2.2=0 by omega) (by omega);rw[hu];exact .inl ⟨rfl,rfl,hS⟩
theorem tX (W w:World)(L:List As)(r:Nat)(A:Option Addr)(c:Nat)(bs:List UInt8)(at_:Nat)(mo:Int)(hS:Sat W w (gY r A c bs at_ true 0::L))(hat:at_≤bs.length)(hb:bs.length≤140737488355328)(hR:∀w,Sat W w L→Rd w 1 (.slice A bs.length c) bs.length (bs.map an)):Calls Tryz.prog 152 #[.pointer (some ⟨r,0,none⟩),.int .i64 mo] w fun e w'=>(((nD bs at_ mo).2.2=0)∧e=.returned (.slice (ja A c 1 (gO bs at_ mo).2.1) (nD bs at_ mo).1.length (c-(gO bs at_ mo).2.1))∧Sat W w' (gY r A c bs ((nD bs at_ mo).2.1:Nat) true 0::L))∨(((nD bs at_ mo).2.2≠0)∧xS (.iface 271 (.agg #[.pointer (some ⟨r,0,none⟩)])) e∧∃at',Sat W w' (gY r A c bs at' true ((nD bs at_ mo).2.2:Nat)::L)):=by
 refine enter Tryz.func152 rfl rfl rfl (.cons (i:=0) rfl (.cons (i:=1) rfl .nil)) ?_;intro a hA;change Sat W w (a8 r (.cells #[.slice A bs.length c,.int .i64 (at_:Int),.bool true,.int .i64 0] 269)::L) at hS;refine rC 9 hA ?_;clear hA a;intro a hA;refine dY hA rfl gP rfl (pR _ _ _ r A c bs at_ mo hS hat hb hR) ?_;rintro e w (⟨hu0,rfl,hS⟩ | ⟨hu0,⟨older,rfl,ho⟩,at',hS⟩)
 ·change Sat W w (a8 r (.cells #[.slice A bs.length c,.int .i64 ((gO bs at_ mo).2.1:Nat),.bool true,.int .i64 0] 269)::L) at hS;obtain⟨hu1,hu2,hu3⟩:at_<(gO bs at_ mo).2.1∧(gO bs at_ mo).2.1≤bs.length∧(gO bs at_ mo).1≤9223372036854775807:=by rcases B0 (mo:=mo) hat with h | ⟨_,h⟩;exact absurd hu0 h;exact h
  obtain⟨_,c_,hc0,hcc⟩:=(hR _ hS.drop).form;have hcc:bs.length≤c:=by injection hc0;omega
  refine .inl ⟨_,rfl,?_⟩;clear hA a;refine uO 5 ?_;intro a hA;refine cF (fun w'=>Sat _ w' _) (by kernel_rfl) (by kernel_rfl) hS.drew ?_;refine rQ 2 hA ?_;clear hA a;refine br 0 (fun w hS=>(a7 rfl)) ?_;refine br 0 (fun w hS=>(aa rfl gC)) ?_;refine br 0 (fun w hS=>(ld rfl fZ)) ?_;refine br 1 (fun w hS=>(ar rfl bO)) ?_;refine br 0 (fun w hS=>(a7 rfl)) ?_;refine br 0 (fun w hS=>(aa rfl iS)) ?_;refine br 0 (fun w hS=>(ld rfl aQ)) ?_;refine br 0 (fun w hS=>(aZ rfl rfl (by omega) (by omega))) ?_;intro a hA;refine K.se hA rfl rfl rfl (fun w hS=>(dv (hA.ev rfl) (hA.ev rfl))) ?_ ?_
  ·clear hA a;intro h20;intro a hA;refine wpQuiet_nil ?_;clear hS;intro w hS;refine rE 4 hA ?_;clear hA a;intro a hA;refine dY hA rfl wI rfl (jl _ _ _ r _ c bs _ 50 hS) ?_;rintro e w ⟨⟨older,rfl,ho⟩,hS⟩
   ·refine .inr ⟨_,rfl,?_⟩;refine rE 1 hA ?_;clear hA a;intro a hA;refine de hA ?_;rw[oI hu0 (by omega)];exact .inr ⟨(by decide:(50:Nat)≠0),⟨older,rfl,ho⟩,_,hS⟩
  ·clear hA a;intro h20;intro a hA;refine wpQuiet_nil ?_;clear hS;intro w hS;refine rE 7 hA ?_;clear hA a;refine u1 0 (a7 rfl) ?_;refine u1 0 (aa rfl iS) ?_;refine u1 1 (ld rfl aQ) ?_;refine u1 0 (aJ (ah rfl rfl (by omega) (by omega)) (show _=Value.int .i64 (((gO bs at_ mo).2.1+(gO bs at_ mo).1:Nat):Int) from by rw[Int.natCast_add])) ?_;refine u1 0 (a7 rfl) ?_;refine u1 0 (aa rfl iS) ?_;intro a hA;refine mP hA rfl rfl aQ fQ rfl hS rfl ?_;clear hS;intro w hS;refine rO 2 hA ?_;clear hA a;intro a hA;replace hA:=hA.kp [0,4,5] rfl;refine rC 1 hA ?_;clear hA a;intro a hA;refine cF (fun w'=>Sat _ w' _) (by kernel_rfl) (by kernel_rfl) hS.drew ?_;refine rQ 1 hA ?_;clear hA a
   refine br 0 (fun w hS=>(a7 rfl)) ?_;refine br 0 (fun w hS=>(aa rfl gC)) ?_;refine br 1 (fun w hS=>(ld rfl fZ)) ?_;refine br 0 (fun w hS=>(a7 rfl)) ?_;refine br 0 (fun w hS=>(aa rfl iS)) ?_;refine br 1 (fun w hS=>(ld rfl aQ)) ?_;refine br 1 (fun w hS=>(aJ (aZ rfl rfl (by omega) (by omega)) (show _=Value.int .i64 ((gO bs at_ mo).2.1:Int) from by congr 1;omega))) ?_;refine br 0 (fun w hS=>(a7 rfl)) ?_;refine br 0 (fun w hS=>(aa rfl iS)) ?_;refine br 0 (fun w hS=>(ld rfl aQ)) ?_;refine br 1 (fun w hS=>(aJ (Am rfl rfl rfl bO C3 (by omega) (by omega) (by omega)) (CD (bs:=bs) (n:=(gO bs at_ mo).1) rfl (by omega)))) ?_;intro a hA;refine wpQuiet_nil ?_;clear hS;intro w hS;refine rE 2 hA ?_;clear hA a;refine aX ?_;rw[tK hu0 (by omega)];exact .inl ⟨rfl,rfl,hS⟩
 ·refine .inr ⟨_,rfl,?_⟩;refine rE 1 hA ?_;clear hA a;intro a hA;refine de hA ?_;rw[sT hu0];exact .inr ⟨hu0,⟨older,rfl,ho⟩,_,hS⟩
theorem xm (W w:World)(L:List As)(r:Nat)(A:Option Addr)(c:Nat)(bs:List UInt8)(at_:Nat)(ea:Int)(hS:Sat W w (gY r A c bs at_ true 0::L))(hat:at_≤bs.length)(hb:bs.length≤140737488355328)(hR:∀w,Sat W w L→Rd w 1 (.slice A bs.length c) bs.length (bs.map an))(hea:ea≤9223372036854775807):Calls Tryz.prog 102 #[.pointer (some ⟨r,0,none⟩),.int .i64 ea] w fun e w'=>(((Ch bs at_ ea).2.2=0)∧e=.returned (.int .i64 (((Ch bs at_ ea).1:Nat):Int))∧Sat W w' (gY r A c bs ((Ch bs at_ ea).2.1:Nat) true 0::L))∨(((Ch bs at_ ea).2.2≠0)∧xS (.iface 271 (.agg #[.pointer (some ⟨r,0,none⟩)])) e∧∃at',Sat W w' (gY r A c bs at' true ((Ch bs at_ ea).2.2:Nat)::L)):=by
 refine enter Tryz.func102 rfl rfl rfl (.cons (i:=0) rfl (.cons (i:=1) rfl .nil)) ?_;intro a hA;change Sat W w (a8 r (.cells #[.slice A bs.length c,.int .i64 (at_:Int),.bool true,.int .i64 0] 269)::L) at hS;refine rC 9 hA ?_;clear hA a;refine uF zd rfl (jM _ _ _ r A c bs at_ true 0 hS rfl) ?_;rintro e w ⟨rfl,hT⟩;replace hS:Sat _ _ (_::_):=hS.ai hT;clear hT;refine⟨_,rfl,?_⟩;refine nb 0 0 (aM rfl) ?_ ?_
 ·intro h8;intro a hA;simp only[decide_eq_decide,decide_eq_true_eq,decide_eq_false_iff_not,Bool.not_eq_true',Bool.not_eq_false',bne_iff_ne,ne_eq,beq_iff_eq,Bool.not_eq_true,Bool.not_eq_false]at h8;contradiction
 ·intro h8;intro a hA;simp only[decide_eq_decide,decide_eq_true_eq,decide_eq_false_iff_not,Bool.not_eq_true',Bool.not_eq_false',bne_iff_ne,ne_eq,beq_iff_eq,Bool.not_eq_true,Bool.not_eq_false]at h8;refine rO 8 hA ?_;clear hA a;intro a hA;refine dY hA rfl gP rfl (pR _ _ _ r A c bs at_ 9223372036854775807 hS hat hb hR) ?_;obtain⟨hm1,hm2⟩:=xK (bs:=bs) (i:=at_);rintro e w (⟨hu0,rfl,hS⟩ | ⟨hu0,⟨older,rfl,ho⟩,at',hS⟩)
  ·rw[hm1]at hu0;rw[(hm2 hu0).2]at hS;have hok:=rM hu0;change Sat W w (a8 r (.cells #[.slice A bs.length c,.int .i64 ((fp bs at_).2.1:Nat),.bool true,.int .i64 0] 269)::L) at hS;rw[(hm2 hu0).1];refine .inl ⟨_,rfl,?_⟩;clear hA a;refine uO 5 ?_;intro a hA;refine cF (fun w'=>Sat _ w' _) (by kernel_rfl) (by kernel_rfl) hS.drew ?_;refine rQ 2 hA ?_;clear hA a;refine br 0 (fun w hS=>(a7 rfl)) ?_;refine br 0 (fun w hS=>(aa rfl gC)) ?_;refine br 0 (fun w hS=>(ld rfl fZ)) ?_;refine br 1 (fun w hS=>(ar rfl bO)) ?_;refine br 0 (fun w hS=>(a7 rfl)) ?_;refine br 0 (fun w hS=>(aa rfl iS)) ?_;refine br 0 (fun w hS=>(ld rfl aQ)) ?_;refine br 1 (fun w hS=>(aZ rfl rfl (by omega) (by omega))) ?_;refine br 0 (fun w hS=>(tJ rfl rfl)) ?_;refine br 0 (fun w hS=>(kv rfl rfl (by omega) (by omega) (by omega))) ?_;intro a hA
   refine K.se hA rfl rfl rfl (fun w hS=>(dv (hA.ev rfl) (hA.ev rfl))) ?_ ?_
   ·clear hA a;intro h25;intro a hA;refine wpQuiet_nil ?_;clear hS;intro w hS;refine rE 4 hA ?_;clear hA a;intro a hA;refine dY hA rfl wI rfl (jl _ _ _ r _ c bs _ 50 hS) ?_;rintro e w ⟨⟨older,rfl,ho⟩,hS⟩
    ·refine .inr ⟨_,rfl,?_⟩;refine rE 1 hA ?_;clear hA a;intro a hA;refine de hA ?_;rw[wT hu0 (by omega)];exact .inr ⟨(by decide:(50:Nat)≠0),⟨older,rfl,ho⟩,_,hS⟩
   ·clear hA a;intro h25;intro a hA;refine wpQuiet_nil ?_;clear hS;intro w hS;refine rE 4 hA ?_;clear hA a;intro a hA;replace hA:=hA.kp [4,5] rfl;refine rC 7 hA ?_;clear hA a;refine aX ?_;rw[Aq hu0 (by omega)];exact .inl ⟨rfl,rfl,hS⟩
  ·refine .inr ⟨_,rfl,?_⟩;refine rE 1 hA ?_;clear hA a;intro a hA;refine de hA ?_;rw[hm1]at hu0 hS;rw[Bh hu0];exact .inr ⟨hu0,⟨older,rfl,ho⟩,_,hS⟩
theorem zD (W w:World)(L:List As)(r:Nat)(A:Option Addr)(c:Nat)(bs:List UInt8)(at_:Nat)(mo:Int)(hS:Sat W w (gY r A c bs at_ true 0::L))(hat:at_≤bs.length)(hb:bs.length≤140737488355328)(hR:∀w,Sat W w L→Rd w 1 (.slice A bs.length c) bs.length (bs.map an)):Calls Tryz.prog 394 #[.pointer (some ⟨r,0,none⟩),.int .i64 mo] w fun e w'=>(((nD bs at_ mo).2.2=0)∧e=.returned (.string (str (nD bs at_ mo).1))∧Sat W w' (gY r A c bs ((nD bs at_ mo).2.1:Nat) true 0::L))∨(((nD bs at_ mo).2.2≠0)∧xS (.iface 271 (.agg #[.pointer (some ⟨r,0,none⟩)])) e∧∃at',Sat W w' (gY r A c bs at' true ((nD bs at_ mo).2.2:Nat)::L)):=by
 refine enter Tryz.func394 rfl rfl rfl (.cons (i:=0) rfl (.cons (i:=1) rfl .nil)) ?_;intro a hA;change Sat W w (a8 r (.cells #[.slice A bs.length c,.int .i64 (at_:Int),.bool true,.int .i64 0] 269)::L) at hS;refine rC 9 hA ?_;clear hA a;refine uF zd rfl (jM _ _ _ r A c bs at_ true 0 hS rfl) ?_;rintro e w ⟨rfl,hT⟩;replace hS:Sat _ _ (_::_):=hS.ai hT;clear hT;refine⟨_,rfl,?_⟩;refine nb 0 0 (aM rfl) ?_ ?_
 ·intro h7;intro a hA;simp only[decide_eq_decide,decide_eq_true_eq,decide_eq_false_iff_not,Bool.not_eq_true',Bool.not_eq_false',bne_iff_ne,ne_eq,beq_iff_eq,Bool.not_eq_true,Bool.not_eq_false]at h7;contradiction
 ·intro h7;intro a hA;simp only[decide_eq_decide,decide_eq_true_eq,decide_eq_false_iff_not,Bool.not_eq_true',Bool.not_eq_false',bne_iff_ne,ne_eq,beq_iff_eq,Bool.not_eq_true,Bool.not_eq_false]at h7;refine rO 9 hA ?_;clear hA a;intro a hA;refine dY hA rfl GY rfl (tX _ _ _ r A c bs at_ mo hS hat hb hR) ?_;rintro e w (⟨hu0,rfl,hS⟩ | ⟨hu0,⟨older,rfl,ho⟩,at',hS⟩)
  ·have hpr:=BW (mo:=mo) (hR _ hS.drop) hat hu0;refine .inl ⟨_,rfl,?_⟩;clear hA a;refine u1 4 (DA rfl bO oX xu hpr) ?_;refine aX ?_;exact .inl ⟨hu0,rfl,hS⟩
  ·refine .inr ⟨_,rfl,?_⟩;refine rE 1 hA ?_;clear hA a;intro a hA;refine de hA ?_;exact .inr ⟨hu0,⟨older,rfl,ho⟩,_,hS⟩
theorem xx (W w:World)(L:List As)(r:Nat)(A:Option Addr)(c:Nat)(bs:List UInt8)(at_:Nat)(mo:Int)(hS:Sat W w (gY r A c bs at_ true 0::L))(hat:at_≤bs.length)(hb:bs.length≤140737488355328)(hR:∀w,Sat W w L→Rd w 1 (.slice A bs.length c) bs.length (bs.map an)):Calls Tryz.prog 103 #[.pointer (some ⟨r,0,none⟩),.int .i64 mo] w fun e w'=>((nD bs at_ mo).2.2=0∧(∃A' c',e=.returned (.slice A' (nD bs at_ mo).1.length c')∧Sat W w' (gY r A c bs ((nD bs at_ mo).2.1:Nat) true 0::row 5 1 (.slice A' ((nD bs at_ mo).1).length c') ((nD bs at_ mo).1).length (((nD bs at_ mo).1).map an)::L)))∨(((nD bs at_ mo).2.2≠0)∧xS (.iface 271 (.agg #[.pointer (some ⟨r,0,none⟩)])) e∧∃at',Sat W w' (gY r A c bs at' true ((nD bs at_ mo).2.2:Nat)::L)):=by
 refine enter Tryz.func103 rfl rfl rfl (.cons (i:=0) rfl (.cons (i:=1) rfl .nil)) ?_;intro a hA;change Sat W w (a8 r (.cells #[.slice A bs.length c,.int .i64 (at_:Int),.bool true,.int .i64 0] 269)::L) at hS;refine rC 9 hA ?_;clear hA a;refine uF zd rfl (jM _ _ _ r A c bs at_ true 0 hS rfl) ?_;rintro e w ⟨rfl,hT⟩;replace hS:Sat _ _ (_::_):=hS.ai hT;clear hT;refine⟨_,rfl,?_⟩;refine nb 0 0 (aM rfl) ?_ ?_
 ·intro h7;intro a hA;simp only[decide_eq_decide,decide_eq_true_eq,decide_eq_false_iff_not,Bool.not_eq_true',Bool.not_eq_false',bne_iff_ne,ne_eq,beq_iff_eq,Bool.not_eq_true,Bool.not_eq_false]at h7;contradiction
 ·intro h7;intro a hA;simp only[decide_eq_decide,decide_eq_true_eq,decide_eq_false_iff_not,Bool.not_eq_true',Bool.not_eq_false',bne_iff_ne,ne_eq,beq_iff_eq,Bool.not_eq_true,Bool.not_eq_false]at h7;refine rO 9 hA ?_;clear hA a;intro a hA;refine dY hA rfl GY rfl (tX _ _ _ r A c bs at_ mo hS hat hb hR) ?_;rintro e w (⟨hu0,rfl,hS⟩ | ⟨hu0,⟨older,rfl,ho⟩,at',hS⟩)
  ·have hpr:=BW (mo:=mo) (hR _ hS.drop) hat hu0;refine .inl ⟨_,rfl,?_⟩;clear hA a;refine uF DM rfl (nT _ _ _ (nD bs at_ mo).1 hpr (by have:=BH (bs:=bs) (i:=at_) (mo:=mo);omega)) ?_;rintro e w ⟨A1,c1,rfl,hT⟩;replace hS:=hS.aB hT;clear hT;refine⟨_,rfl,?_⟩;refine uO 4 ?_;refine aX ?_;exact .inl ⟨hu0,_,_,rfl,hS.p 1⟩
  ·refine .inr ⟨_,rfl,?_⟩;refine rE 1 hA ?_;clear hA a;intro a hA;refine de hA ?_;exact .inr ⟨hu0,⟨older,rfl,ho⟩,_,hS⟩
theorem cU (W w:World)(L:List As)(r:Nat)(A:Option Addr)(c:Nat)(bs:List UInt8)(at_:Nat)(er:Int)(hS:Sat W w (gY r A c bs at_ true 0::L))(hat:at_≤bs.length)(hb:bs.length≤140737488355328)(hR:∀w,Sat W w L→Rd w 1 (.slice A bs.length c) bs.length (bs.map an)):Calls Tryz.prog 101 #[.pointer (some ⟨r,0,none⟩),.int .i64 er] w fun e w'=>xS (.iface 271 (.agg #[.pointer (some ⟨r,0,none⟩)])) e∧∃at',Sat W w' (gY r A c bs at' true (if er=0 then 8 else er)::L):=by
 refine enter Tryz.func101 rfl rfl rfl (.cons (i:=0) rfl (.cons (i:=1) rfl .nil)) ?_;intro a hA;change Sat W w (a8 r (.cells #[.slice A bs.length c,.int .i64 (at_:Int),.bool true,.int .i64 0] 269)::L) at hS;refine rC 4 hA ?_;clear hA a;refine uF zd rfl (jM _ _ _ r A c bs at_ true 0 hS rfl) ?_;rintro e w ⟨rfl,hT⟩;replace hS:Sat _ _ (_::_):=hS.ai hT;clear hT;refine⟨_,rfl,?_⟩;refine nb 0 0 (aM rfl) ?_ ?_
 ·intro h6;intro a hA;simp only[decide_eq_decide,decide_eq_true_eq,decide_eq_false_iff_not,Bool.not_eq_true',Bool.not_eq_false',bne_iff_ne,ne_eq,beq_iff_eq,Bool.not_eq_true,Bool.not_eq_false]at h6;contradiction
 ·intro h6;intro a hA;simp only[decide_eq_decide,decide_eq_true_eq,decide_eq_false_iff_not,Bool.not_eq_true',Bool.not_eq_false',bne_iff_ne,ne_eq,beq_iff_eq,Bool.not_eq_true,Bool.not_eq_false]at h6;refine rO 9 hA ?_;clear hA a;refine aR 0 0 (bn rfl rfl) ?_ ?_
  ·intro h8;refine uO 10 ?_;intro a hA;refine dY hA rfl wI rfl (jl _ _ _ r _ c bs _ _ hS) ?_;rintro e w ⟨⟨older,rfl,ho⟩,hS⟩
   ·refine .inr ⟨_,rfl,?_⟩;refine de hA ?_
    (rw[if_pos h8];exact⟨⟨older,rfl,ho⟩,_,hS⟩)
  ·intro h8;refine uO 8 ?_;intro a hA;refine dY hA rfl wI rfl (jl _ _ _ r _ c bs _ _ hS) ?_;rintro e w ⟨⟨older,rfl,ho⟩,hS⟩
   ·refine .inr ⟨_,rfl,?_⟩;refine de hA ?_
    (rw[if_neg h8];exact⟨⟨older,rfl,ho⟩,_,hS⟩)
def rq (c:Option Code):Code:=match c with | some (.seq _ b)=>b | _=>.skip
theorem Dk (W w:World)(L:List As)(r q p:Nat)(A:Option Addr)(n c:Nat)(at_ err e0:Int)(live:Bool)  (hn:n≤140737488355328)(a:Act)(hA:Ag a 59 [(0,.pointer (some ⟨q,0,none⟩)),(1,.pointer (some ⟨p,0,none⟩)),(2,.nilIface)])(hS:Sat W w (a8 r (.cells #[.slice A n c,.int .i64 at_,.bool live,.int .i64 err] 269)::a8 q (.cells #[.pointer (some ⟨r,0,none⟩)] 196)::a8 p (.cells #[.int .i64 e0] 27)::L)):(rq Tryz.f148.body).wp Tryz.prog (bodyPost Tryz.prog Tryz.f148 fun e w'=>e=.returned (.tuple #[])∧Sat W w' (a8 r (.cells #[.slice none 0 0,.int .i64 at_,.bool false,.int .i64 err] 269)::a8 q (.cells #[.pointer (some ⟨r,0,none⟩)] 196)::a8 p (.cells #[.int .i64 (if err≠0 then err else if at_<n then 52 else e0)] 27)::L)) a w:=by
 refine rC 1 hA ?_;clear hA a;intro a hA;refine cF (fun w'=>Sat _ w' _) (by kernel_rfl) (by kernel_rfl) hS.drew ?_;refine Q1 0 hA (fun w hS=>(aq (hA.ev rfl) dF (by exact (hS.p 1).cell rfl))) ?_;clear hA a;refine br 0 (fun w hS=>(a7 rfl)) ?_;refine br 0 (fun w hS=>(aa rfl iS)) ?_;refine br 0 (fun w hS=>(ld rfl aQ)) ?_;refine br 0 (fun w hS=>(ld rfl dF)) ?_;refine br 0 (fun w hS=>(a7 rfl)) ?_;refine br 0 (fun w hS=>(aa rfl gC)) ?_;refine br 0 (fun w hS=>(ld rfl fZ)) ?_;refine br 0 (fun w hS=>(ar rfl bO)) ?_;intro a hA;refine K.se hA rfl rfl rfl (fun w hS=>(aw (hA.ev rfl) (hA.ev rfl))) ?_ ?_
 ·clear hA a;intro h16;refine uQ 1 ?_;intro a hA;refine wpQuiet_nil ?_;clear hS;intro w hS;refine rE 3 hA ?_;clear hA a;refine u1 0 (ld rfl dF) ?_;refine u1 0 (ld rfl dF) ?_;refine u1 0 (a7 rfl) ?_;refine u1 0 (aa rfl nh) ?_;intro a hA;refine mP hA rfl rfl Dz GO rfl hS rfl ?_;clear hS;intro w hS;refine o1 0 hA (a7 (hA.ev rfl)) ?_;clear hA a;refine u1 0 (aa rfl gC) ?_;intro a hA;refine mP hA rfl rfl fZ jz rfl hS rfl ?_;clear hS;intro w hS;refine rO 6 hA ?_;clear hA a;refine u1 1 (BP rfl vd (qo oZ)) ?_;refine u1 0 (au rfl rfl) ?_;refine u1 0 (au rfl rfl) ?_;refine uN oZ hS ?_;clear hS;intro b4 w hS;refine uW (vs:=[_]) (cs':=[_]) rfl rfl wV hS ?_;clear hS;intro w hS;refine uO 21 ?_;intro a hA;replace hA:=hA.kp [0,1,2,3,4,41] rfl;refine rC 6 hA ?_;clear hA a
  refine u1 0 (ld rfl dF) ?_;refine u1 0 (a7 rfl) ?_;refine u1 0 (aa rfl fV) ?_;refine u1 0 (ld rfl jf) ?_;refine aR 0 0 (aK rfl rfl) ?_ ?_
  ·intro h49;refine uO 5 ?_;refine u1 0 (ld rfl dF) ?_;refine u1 0 (a7 rfl) ?_;refine u1 0 (aa rfl fV) ?_;refine u1 0 (ld rfl jf) ?_;intro a hA;refine mP hA rfl rfl jf rF rfl (hS.p 3) rfl ?_;clear hS;intro w hS;refine rO 2 hA ?_;clear hA a;intro a hA;refine fM (e:=.ret) ?_;refine jg hA rfl  ?_
   first
    | (rw[if_pos h49];exact⟨rfl,(((hS.p 3).p 3).p 3).drop⟩)
    | (rw[if_neg h49,if_pos h16];exact⟨rfl,(((hS.p 3).p 3).p 3).drop⟩)
    | (rw[if_neg h49,if_neg h16];exact⟨rfl,hS.drop⟩)
    | (rw[if_neg h49];exact⟨rfl,(((hS.p 3).p 3).p 3).drop⟩)
  ·intro h49;refine uO 7 ?_;refine u1 12 (BN rfl rfl (show isIface Tryz.prog 20=true by kernel_rfl)) ?_;intro a hA;refine mP hA rfl rfl jf rF rfl (hS.p 3) rfl ?_;clear hS;intro w hS;refine rO 2 hA ?_;clear hA a;intro a hA;refine fM (e:=.ret) ?_;refine jg hA rfl  ?_
   first
    | (rw[if_pos h49];exact⟨rfl,(((hS.p 3).p 3).p 3).drop⟩)
    | (rw[if_neg h49,if_pos h16];exact⟨rfl,(((hS.p 3).p 3).p 3).drop⟩)
    | (rw[if_neg h49,if_neg h16];exact⟨rfl,hS.drop⟩)
    | (rw[if_neg h49];exact⟨rfl,(((hS.p 3).p 3).p 3).drop⟩)
 ·clear hA a;intro h16;refine uQ 1 ?_;intro a hA;refine wpQuiet_nil ?_;clear hS;intro w hS;refine rE 3 hA ?_;clear hA a;refine u1 0 (ld rfl dF) ?_;refine u1 0 (ld rfl dF) ?_;refine u1 0 (a7 rfl) ?_;refine u1 0 (aa rfl nh) ?_;intro a hA;refine mP hA rfl rfl Dz GO rfl hS rfl ?_;clear hS;intro w hS;refine o1 0 hA (a7 (hA.ev rfl)) ?_;clear hA a;refine u1 0 (aa rfl gC) ?_;intro a hA;refine mP hA rfl rfl fZ jz rfl hS rfl ?_;clear hS;intro w hS;refine rO 6 hA ?_;clear hA a;refine u1 1 (BP rfl vd (qo oZ)) ?_;refine u1 0 (au rfl rfl) ?_;refine u1 0 (au rfl rfl) ?_;refine uN oZ hS ?_;clear hS;intro b4 w hS;refine uW (vs:=[_]) (cs':=[_]) rfl rfl wV hS ?_;clear hS;intro w hS;refine uO 21 ?_;intro a hA;replace hA:=hA.kp [0,1,2,3,4,41] rfl;refine rC 6 hA ?_;clear hA a
  refine u1 0 (ld rfl dF) ?_;refine u1 0 (a7 rfl) ?_;refine u1 0 (aa rfl fV) ?_;refine u1 0 (ld rfl jf) ?_;refine aR 0 0 (aK rfl rfl) ?_ ?_
  ·intro h49;refine uO 5 ?_;refine u1 0 (ld rfl dF) ?_;refine u1 0 (a7 rfl) ?_;refine u1 0 (aa rfl fV) ?_;refine u1 0 (ld rfl jf) ?_;intro a hA;refine mP hA rfl rfl jf rF rfl (hS.p 3) rfl ?_;clear hS;intro w hS;refine rO 2 hA ?_;clear hA a;intro a hA;refine fM (e:=.ret) ?_;refine jg hA rfl  ?_
   first
    | (rw[if_pos h49];exact⟨rfl,(((hS.p 3).p 3).p 3).drop⟩)
    | (rw[if_neg h49,if_pos h16];exact⟨rfl,(((hS.p 3).p 3).p 3).drop⟩)
    | (rw[if_neg h49,if_neg h16];exact⟨rfl,hS.drop⟩)
    | (rw[if_neg h49];exact⟨rfl,(((hS.p 3).p 3).p 3).drop⟩)
  ·intro h49;refine uO 7 ?_;refine u1 13 (BN rfl rfl (show isIface Tryz.prog 20=true by kernel_rfl)) ?_;intro a hA;refine fM (e:=.ret) ?_;refine jg hA rfl  ?_
   first
    | (rw[if_pos h49];exact⟨rfl,(((hS.p 3).p 3).p 3).drop⟩)
    | (rw[if_neg h49,if_pos h16];exact⟨rfl,(((hS.p 3).p 3).p 3).drop⟩)
    | (rw[if_neg h49,if_neg h16];exact⟨rfl,hS.drop⟩)
    | (rw[if_neg h49];exact⟨rfl,(((hS.p 3).p 3).p 3).drop⟩)
theorem CM (W w:World)(L:List As)(r q p:Nat)(A:Option Addr)(n c:Nat)(at_ err e0:Int)(live:Bool)  (hn:n≤140737488355328)(a:Act)(hA:Ag a 59 [(0,.pointer (some ⟨q,0,none⟩)),(1,.pointer (some ⟨p,0,none⟩)),(2,.iface 271 (.agg #[.pointer (some ⟨r,0,none⟩)]))])(hS:Sat W w (a8 r (.cells #[.slice A n c,.int .i64 at_,.bool live,.int .i64 err] 269)::a8 q (.cells #[.pointer (some ⟨r,0,none⟩)] 196)::a8 p (.cells #[.int .i64 e0] 27)::L)):(rq Tryz.f148.body).wp Tryz.prog (bodyPost Tryz.prog Tryz.f148 fun e w'=>e=.returned (.tuple #[])∧Sat W w' (a8 r (.cells #[.slice none 0 0,.int .i64 at_,.bool false,.int .i64 err] 269)::a8 q (.cells #[.pointer (some ⟨r,0,none⟩)] 196)::a8 p (.cells #[.int .i64 (if err≠0 then err else 8)] 27)::L)) a w:=by
 refine rC 1 hA ?_;clear hA a;intro a hA;refine cF (fun w'=>Sat _ w' _) (by kernel_rfl) (by kernel_rfl) hS.drew ?_;refine Q1 0 hA (fun w hS=>(aq (hA.ev rfl) dF (by exact (hS.p 1).cell rfl))) ?_;clear hA a;refine br 0 (fun w hS=>(a7 rfl)) ?_;refine br 0 (fun w hS=>(aa rfl iS)) ?_;refine br 0 (fun w hS=>(ld rfl aQ)) ?_;refine br 0 (fun w hS=>(ld rfl dF)) ?_;refine br 0 (fun w hS=>(a7 rfl)) ?_;refine br 0 (fun w hS=>(aa rfl gC)) ?_;refine br 0 (fun w hS=>(ld rfl fZ)) ?_;refine br 0 (fun w hS=>(ar rfl bO)) ?_;intro a hA;refine K.se hA rfl rfl rfl (fun w hS=>(aw (hA.ev rfl) (hA.ev rfl))) ?_ ?_
 ·clear hA a;intro h16;refine uQ 1 ?_;intro a hA;refine wpQuiet_nil ?_;clear hS;intro w hS;refine rE 3 hA ?_;clear hA a;refine u1 0 (ld rfl dF) ?_;refine u1 0 (ld rfl dF) ?_;refine u1 0 (a7 rfl) ?_;refine u1 0 (aa rfl nh) ?_;intro a hA;refine mP hA rfl rfl Dz GO rfl hS rfl ?_;clear hS;intro w hS;refine o1 0 hA (a7 (hA.ev rfl)) ?_;clear hA a;refine u1 0 (aa rfl gC) ?_;intro a hA;refine mP hA rfl rfl fZ jz rfl hS rfl ?_;clear hS;intro w hS;refine rO 6 hA ?_;clear hA a;refine u1 1 (BQ rfl vd) ?_;refine u1 0 (au rfl rfl) ?_;refine u1 0 (au rfl rfl) ?_;refine uN oZ hS ?_;clear hS;intro b4 w hS;refine uW (vs:=[_]) (cs':=[_]) rfl rfl wV hS ?_;clear hS;intro w hS
  refine uO 7 ?_;refine u1 0 (aa rfl BF) ?_;refine u1 0 (ld rfl dF) ?_;refine u1 0 (ld rfl dF) ?_;refine u1 10 (Ec rfl rfl Es (k:=3) (show (Tryz.prog.info? 269).map (·.size)=some 4 by kernel_rfl)) ?_;intro a hA;replace hA:=hA.kp [0,1,2,3,4,41] rfl;refine rC 6 hA ?_;clear hA a;refine u1 0 (ld rfl dF) ?_;refine u1 0 (a7 rfl) ?_;refine u1 0 (aa rfl fV) ?_;refine u1 0 (ld rfl jf) ?_;refine aR 0 0 (aK rfl rfl) ?_ ?_
  ·intro h49;refine uO 5 ?_;refine u1 0 (ld rfl dF) ?_;refine u1 0 (a7 rfl) ?_;refine u1 0 (aa rfl fV) ?_;refine u1 0 (ld rfl jf) ?_;intro a hA;refine mP hA rfl rfl jf rF rfl (hS.p 3) rfl ?_;clear hS;intro w hS;refine rO 2 hA ?_;clear hA a;intro a hA;refine fM (e:=.ret) ?_;refine jg hA rfl  ?_
   first
    | (rw[if_pos h49];exact⟨rfl,(((hS.p 3).p 3).p 3).drop⟩)
    | (rw[if_neg h49,if_pos h16];exact⟨rfl,(((hS.p 3).p 3).p 3).drop⟩)
    | (rw[if_neg h49,if_neg h16];exact⟨rfl,hS.drop⟩)
    | (rw[if_neg h49];exact⟨rfl,(((hS.p 3).p 3).p 3).drop⟩)
  ·intro h49;refine uO 7 ?_;refine u1 5 (x5 rfl rfl (show isIface Tryz.prog 20=true by kernel_rfl)) ?_;intro a hA;refine mP hA rfl rfl jf rF rfl (hS.p 3) rfl ?_;clear hS;intro w hS;refine rO 2 hA ?_;clear hA a;intro a hA;refine fM (e:=.ret) ?_;refine jg hA rfl  ?_
   first
    | (rw[if_pos h49];exact⟨rfl,(((hS.p 3).p 3).p 3).drop⟩)
    | (rw[if_neg h49,if_pos h16];exact⟨rfl,(((hS.p 3).p 3).p 3).drop⟩)
    | (rw[if_neg h49,if_neg h16];exact⟨rfl,hS.drop⟩)
    | (rw[if_neg h49];exact⟨rfl,(((hS.p 3).p 3).p 3).drop⟩)
 ·clear hA a;intro h16;refine uQ 1 ?_;intro a hA;refine wpQuiet_nil ?_;clear hS;intro w hS;refine rE 3 hA ?_;clear hA a;refine u1 0 (ld rfl dF) ?_;refine u1 0 (ld rfl dF) ?_;refine u1 0 (a7 rfl) ?_;refine u1 0 (aa rfl nh) ?_;intro a hA;refine mP hA rfl rfl Dz GO rfl hS rfl ?_;clear hS;intro w hS;refine o1 0 hA (a7 (hA.ev rfl)) ?_;clear hA a;refine u1 0 (aa rfl gC) ?_;intro a hA;refine mP hA rfl rfl fZ jz rfl hS rfl ?_;clear hS;intro w hS;refine rO 6 hA ?_;clear hA a;refine u1 1 (BQ rfl vd) ?_;refine u1 0 (au rfl rfl) ?_;refine u1 0 (au rfl rfl) ?_;refine uN oZ hS ?_;clear hS;intro b4 w hS;refine uW (vs:=[_]) (cs':=[_]) rfl rfl wV hS ?_;clear hS;intro w hS
  refine uO 7 ?_;refine u1 0 (aa rfl BF) ?_;refine u1 0 (ld rfl dF) ?_;refine u1 0 (ld rfl dF) ?_;refine u1 10 (Ec rfl rfl Es (k:=3) (show (Tryz.prog.info? 269).map (·.size)=some 4 by kernel_rfl)) ?_;intro a hA;replace hA:=hA.kp [0,1,2,3,4,41] rfl;refine rC 6 hA ?_;clear hA a;refine u1 0 (ld rfl dF) ?_;refine u1 0 (a7 rfl) ?_;refine u1 0 (aa rfl fV) ?_;refine u1 0 (ld rfl jf) ?_;refine aR 0 0 (aK rfl rfl) ?_ ?_
  ·intro h49;refine uO 5 ?_;refine u1 0 (ld rfl dF) ?_;refine u1 0 (a7 rfl) ?_;refine u1 0 (aa rfl fV) ?_;refine u1 0 (ld rfl jf) ?_;intro a hA;refine mP hA rfl rfl jf rF rfl (hS.p 3) rfl ?_;clear hS;intro w hS;refine rO 2 hA ?_;clear hA a;intro a hA;refine fM (e:=.ret) ?_;refine jg hA rfl  ?_
   first
    | (rw[if_pos h49];exact⟨rfl,(((hS.p 3).p 3).p 3).drop⟩)
    | (rw[if_neg h49,if_pos h16];exact⟨rfl,(((hS.p 3).p 3).p 3).drop⟩)
    | (rw[if_neg h49,if_neg h16];exact⟨rfl,hS.drop⟩)
    | (rw[if_neg h49];exact⟨rfl,(((hS.p 3).p 3).p 3).drop⟩)
  ·intro h49;refine uO 7 ?_;refine u1 5 (x5 rfl rfl (show isIface Tryz.prog 20=true by kernel_rfl)) ?_;intro a hA;refine mP hA rfl rfl jf rF rfl (hS.p 3) rfl ?_;clear hS;intro w hS;refine rO 2 hA ?_;clear hA a;intro a hA;refine fM (e:=.ret) ?_;refine jg hA rfl  ?_
   first
    | (rw[if_pos h49];exact⟨rfl,(((hS.p 3).p 3).p 3).drop⟩)
    | (rw[if_neg h49,if_pos h16];exact⟨rfl,(((hS.p 3).p 3).p 3).drop⟩)
    | (rw[if_neg h49,if_neg h16];exact⟨rfl,hS.drop⟩)
    | (rw[if_neg h49];exact⟨rfl,(((hS.p 3).p 3).p 3).drop⟩)
theorem zE (W w:World)(L:List As)(r q p:Nat)(A:Option Addr)(n c:Nat)(at_ err e0:Int)(live:Bool)(tx:TypeId)(vx:Value)(hne:tx≠271)(hn:n≤140737488355328)(a:Act)(hA:Ag a 59 [(0,.pointer (some ⟨q,0,none⟩)),(1,.pointer (some ⟨p,0,none⟩)),(2,.iface tx vx)])(hS:Sat W w (a8 r (.cells #[.slice A n c,.int .i64 at_,.bool live,.int .i64 err] 269)::a8 q (.cells #[.pointer (some ⟨r,0,none⟩)] 196)::a8 p (.cells #[.int .i64 e0] 27)::L)):(rq Tryz.f148.body).wp Tryz.prog (bodyPost Tryz.prog Tryz.f148 fun e w'=>e=.returned (.tuple #[])∧Sat W w' (a8 r (.cells #[.slice none 0 0,.int .i64 at_,.bool false,.int .i64 err] 269)::a8 q (.cells #[.pointer (some ⟨r,0,none⟩)] 196)::a8 p (.cells #[.int .i64 (if err≠0 then err else 8)] 27)::L)) a w:=by
 refine rC 1 hA ?_;clear hA a;intro a hA;refine cF (fun w'=>Sat _ w' _) (by kernel_rfl) (by kernel_rfl) hS.drew ?_;refine Q1 0 hA (fun w hS=>(aq (hA.ev rfl) dF (by exact (hS.p 1).cell rfl))) ?_;clear hA a;refine br 0 (fun w hS=>(a7 rfl)) ?_;refine br 0 (fun w hS=>(aa rfl iS)) ?_;refine br 0 (fun w hS=>(ld rfl aQ)) ?_;refine br 0 (fun w hS=>(ld rfl dF)) ?_;refine br 0 (fun w hS=>(a7 rfl)) ?_;refine br 0 (fun w hS=>(aa rfl gC)) ?_;refine br 0 (fun w hS=>(ld rfl fZ)) ?_;refine br 0 (fun w hS=>(ar rfl bO)) ?_;intro a hA;refine K.se hA rfl rfl rfl (fun w hS=>(aw (hA.ev rfl) (hA.ev rfl))) ?_ ?_
 ·clear hA a;intro h16;refine uQ 1 ?_;intro a hA;refine wpQuiet_nil ?_;clear hS;intro w hS;refine rE 3 hA ?_;clear hA a;refine u1 0 (ld rfl dF) ?_;refine u1 0 (ld rfl dF) ?_;refine u1 0 (a7 rfl) ?_;refine u1 0 (aa rfl nh) ?_;intro a hA;refine mP hA rfl rfl Dz GO rfl hS rfl ?_;clear hS;intro w hS;refine o1 0 hA (a7 (hA.ev rfl)) ?_;clear hA a;refine u1 0 (aa rfl gC) ?_;intro a hA;refine mP hA rfl rfl fZ jz rfl hS rfl ?_;clear hS;intro w hS;refine rO 6 hA ?_;clear hA a;refine u1 1 (yT rfl hne vd (qo oZ)) ?_;refine u1 0 (au rfl rfl) ?_;refine u1 0 (au rfl rfl) ?_;refine uN oZ hS ?_;clear hS;intro b4 w hS;refine uW (vs:=[_]) (cs':=[_]) rfl rfl wV hS ?_;clear hS;intro w hS;refine uO 21 ?_;intro a hA;replace hA:=hA.kp [0,1,2,3,4,41] rfl;refine rC 6 hA ?_;clear hA a
  refine u1 0 (ld rfl dF) ?_;refine u1 0 (a7 rfl) ?_;refine u1 0 (aa rfl fV) ?_;refine u1 0 (ld rfl jf) ?_;refine aR 0 0 (aK rfl rfl) ?_ ?_
  ·intro h49;refine uO 5 ?_;refine u1 0 (ld rfl dF) ?_;refine u1 0 (a7 rfl) ?_;refine u1 0 (aa rfl fV) ?_;refine u1 0 (ld rfl jf) ?_;intro a hA;refine mP hA rfl rfl jf rF rfl (hS.p 3) rfl ?_;clear hS;intro w hS;refine rO 2 hA ?_;clear hA a;intro a hA;refine fM (e:=.ret) ?_;refine jg hA rfl  ?_
   first
    | (rw[if_pos h49];exact⟨rfl,(((hS.p 3).p 3).p 3).drop⟩)
    | (rw[if_neg h49,if_pos h16];exact⟨rfl,(((hS.p 3).p 3).p 3).drop⟩)
    | (rw[if_neg h49,if_neg h16];exact⟨rfl,hS.drop⟩)
    | (rw[if_neg h49];exact⟨rfl,(((hS.p 3).p 3).p 3).drop⟩)
  ·intro h49;refine uO 7 ?_;refine u1 5 (x5 rfl rfl (show isIface Tryz.prog 20=true by kernel_rfl)) ?_;intro a hA;refine mP hA rfl rfl jf rF rfl (hS.p 3) rfl ?_;clear hS;intro w hS;refine rO 2 hA ?_;clear hA a;intro a hA;refine fM (e:=.ret) ?_;refine jg hA rfl  ?_
   first
    | (rw[if_pos h49];exact⟨rfl,(((hS.p 3).p 3).p 3).drop⟩)
    | (rw[if_neg h49,if_pos h16];exact⟨rfl,(((hS.p 3).p 3).p 3).drop⟩)
    | (rw[if_neg h49,if_neg h16];exact⟨rfl,hS.drop⟩)
    | (rw[if_neg h49];exact⟨rfl,(((hS.p 3).p 3).p 3).drop⟩)
 ·clear hA a;intro h16;refine uQ 1 ?_;intro a hA;refine wpQuiet_nil ?_;clear hS;intro w hS;refine rE 3 hA ?_;clear hA a;refine u1 0 (ld rfl dF) ?_;refine u1 0 (ld rfl dF) ?_;refine u1 0 (a7 rfl) ?_;refine u1 0 (aa rfl nh) ?_;intro a hA;refine mP hA rfl rfl Dz GO rfl hS rfl ?_;clear hS;intro w hS;refine o1 0 hA (a7 (hA.ev rfl)) ?_;clear hA a;refine u1 0 (aa rfl gC) ?_;intro a hA;refine mP hA rfl rfl fZ jz rfl hS rfl ?_;clear hS;intro w hS;refine rO 6 hA ?_;clear hA a;refine u1 1 (yT rfl hne vd (qo oZ)) ?_;refine u1 0 (au rfl rfl) ?_;refine u1 0 (au rfl rfl) ?_;refine uN oZ hS ?_;clear hS;intro b4 w hS;refine uW (vs:=[_]) (cs':=[_]) rfl rfl wV hS ?_;clear hS;intro w hS;refine uO 21 ?_;intro a hA;replace hA:=hA.kp [0,1,2,3,4,41] rfl;refine rC 6 hA ?_;clear hA a
  refine u1 0 (ld rfl dF) ?_;refine u1 0 (a7 rfl) ?_;refine u1 0 (aa rfl fV) ?_;refine u1 0 (ld rfl jf) ?_;refine aR 0 0 (aK rfl rfl) ?_ ?_
  ·intro h49;refine uO 5 ?_;refine u1 0 (ld rfl dF) ?_;refine u1 0 (a7 rfl) ?_;refine u1 0 (aa rfl fV) ?_;refine u1 0 (ld rfl jf) ?_;intro a hA;refine mP hA rfl rfl jf rF rfl (hS.p 3) rfl ?_;clear hS;intro w hS;refine rO 2 hA ?_;clear hA a;intro a hA;refine fM (e:=.ret) ?_;refine jg hA rfl  ?_
   first
    | (rw[if_pos h49];exact⟨rfl,(((hS.p 3).p 3).p 3).drop⟩)
    | (rw[if_neg h49,if_pos h16];exact⟨rfl,(((hS.p 3).p 3).p 3).drop⟩)
    | (rw[if_neg h49,if_neg h16];exact⟨rfl,hS.drop⟩)
    | (rw[if_neg h49];exact⟨rfl,(((hS.p 3).p 3).p 3).drop⟩)
  ·intro h49;refine uO 7 ?_;refine u1 5 (x5 rfl rfl (show isIface Tryz.prog 20=true by kernel_rfl)) ?_;intro a hA;refine mP hA rfl rfl jf rF rfl (hS.p 3) rfl ?_;clear hS;intro w hS;refine rO 2 hA ?_;clear hA a;intro a hA;refine fM (e:=.ret) ?_;refine jg hA rfl  ?_
   first
    | (rw[if_pos h49];exact⟨rfl,(((hS.p 3).p 3).p 3).drop⟩)
    | (rw[if_neg h49,if_pos h16];exact⟨rfl,(((hS.p 3).p 3).p 3).drop⟩)
    | (rw[if_neg h49,if_neg h16];exact⟨rfl,hS.drop⟩)
    | (rw[if_neg h49];exact⟨rfl,(((hS.p 3).p 3).p 3).drop⟩)
end Go.Proofs.YtkjabaihpkbfhaaGreat.Wk
namespace Go.Proofs.YtkjabaihpkbfhaaGreat.Wk
open Go Go.RowKit Go.Proofs.YtkjabaihpkbfhaaGreat Go.Proofs.YtkjabaihpkbfhaaGreat.K
section
variable {P:Program} {Q:Exit→Act→List Frame→World→Prop} {a:Act} {cs cs':List Frame} {w w':World} {ops:Array Oper} {i:Nat} {rest:List Nat} {o:Oper} {v:Value}
theorem Ce (ho:ops[i]?=some o)(hg:o.guard=none)(hr:(execOp a.eval o).run P w=.ok .recover w')(hc:recoverD cs=some (v,cs'))(k:wpOpsS P ops Q rest (a.put o.dst v) cs' w'):wpOpsS P ops Q (i::rest) a cs w:=by
 rw[wpOpsS];simp only[ho,Region.wanted,hg,if_true,hr,hc];exact k
theorem Dm (ho:ops[i]?=some o)(hg:o.guard=none)(hr:(execOp a.eval o).run P w=.ok .recover w')(hc:recoverD cs=none)(k:wpOpsS P ops Q rest (a.put o.dst .nilIface) cs w'):wpOpsS P ops Q (i::rest) a cs w:=by
 rw[wpOpsS];simp only[ho,Region.wanted,hg,if_true,hr,hc];exact k
theorem Jh (ho:ops[i]?=some o)(hg:o.guard=none)(hr:(execOp a.eval o).run P w=.ok (.value v) w')(k:wpOpsS P ops Q rest (a.put o.dst v) cs w'):wpOpsS P ops Q (i::rest) a cs w:=by
 rw[wpOpsS];simp only[ho,Region.wanted,hg,if_true,hr,Oper.upon];exact k
end
theorem zj {R:Ending→World→Prop}(x:Value)(u u':FrameMode)(w:World)(q p:Nat)
 (hx:∀(c₀:Frame) (cs:List Frame),c₀.mode=u→recoverD (c₀::cs)=some (x,{ c₀ with mode:=u' }::cs)∨(recoverD (c₀::cs)=none∧x=.nilIface∧u'=u))
 (h:∀a,Ag a 59 [(0,.pointer (some ⟨q,0,none⟩)),(1,.pointer (some ⟨p,0,none⟩)),(2,x)]→(rq Tryz.f148.body).wp Tryz.prog (bodyPost Tryz.prog Tryz.f148 R) a w) :
 CallsD Tryz.prog 148 #[.pointer (some ⟨q,0,none⟩),.pointer (some ⟨p,0,none⟩)] u w fun e v w'=>v=u'∧R e w':=by
 refine callsD_of_wpS Tryz.func148 rfl fun c₀ cs hc=>wpS_seq (wpS_region ?_)
 have hA0:Ag { tmps:=#[.pointer (some ⟨q,0,none⟩),.pointer (some ⟨p,0,none⟩)]++Array.replicate (Tryz.f148.ntmps-2) undef,defers:=[] } 59 [(0,.pointer (some ⟨q,0,none⟩)),(1,.pointer (some ⟨p,0,none⟩))]:=
  Ag.enter _ 59 (by simp) (by intro z hz;simp at hz;rcases hz with rfl | rfl<;>rfl)
 show wpOpsS Tryz.prog _ _ [0,1] _ _ _
 have key:∀a' cs',Ag a' 59 [(0,.pointer (some ⟨q,0,none⟩)),(1,.pointer (some ⟨p,0,none⟩)),(2,x)]→cs'={ c₀ with mode:=u' }::cs→
  (rq Tryz.f148.body).wpS Tryz.prog (bodyPostS Tryz.prog Tryz.f148 c₀ cs (fun e v w'=>v=u'∧R e w')) a' cs' w:=fun a' cs' hA hcs=>
  wpS_of_wp (wp_mono (h a' hA) fun e a2 w2 hq=>by
   cases e with
   | normal=>obtain⟨h1,v,h2,h3⟩:=hq;exact⟨h1,u',hcs,v,h2,rfl,h3⟩
   | ret=>obtain⟨h1,v,h2,h3⟩:=hq;exact⟨h1,u',hcs,v,h2,rfl,h3⟩
   | panic ch=>exact⟨hq.1,u',hcs,rfl,hq.2⟩
   | outgrown=>exact⟨u',rfl,hq⟩
   | exit i=>exact hq
   | goto l=>exact hq)
 rcases hx c₀ cs hc with h1 | ⟨h1,rfl,rfl⟩
 ·
  refine Ce rfl rfl rfl h1 ?_;have hA1:=hA0.put (d:=6) (by rfl) x;refine Jh rfl rfl (qk (hA1.ev rfl)) ?_;have hA2:=hA1.put (d:=2) (by rfl) x;exact key _ _ (hA2.xL (.cons (i:=0) rfl (.cons (i:=1) rfl (.cons (i:=2) rfl .nil)))) rfl
 ·
  refine Dm rfl rfl rfl h1 ?_;have hA1:=hA0.put (d:=6) (by rfl) .nilIface;refine Jh rfl rfl (qk (hA1.ev rfl)) ?_;have hA2:=hA1.put (d:=2) (by rfl) .nilIface;exact key _ _ (hA2.xL (.cons (i:=0) rfl (.cons (i:=1) rfl (.cons (i:=2) rfl .nil)))) (by subst hc;rfl)
end Go.Proofs.YtkjabaihpkbfhaaGreat.Wk
namespace Go.Proofs.YtkjabaihpkbfhaaGreat.Wk
open Go Go.RowKit Go.Proofs.YtkjabaihpkbfhaaGreat Go.Proofs.YtkjabaihpkbfhaaGreat.K Go.Proofs.YtkjabaihpkbfhaaGreat.T
def dead (r:Nat)(at_ err:Int):As:=a8 r (.cells #[.slice none 0 0,.int .i64 at_,.bool false,.int .i64 err] 269)
def iA (q r:Nat):As:=a8 q (.cells #[.pointer (some ⟨r,0,none⟩)] 196)
def gQ (p:Nat)(x:Int):As:=a8 p (.cells #[.int .i64 x] 27)
theorem nZ {R:Ending→World→Prop}{a:Act}{E:Env}(W w:World)(L:List As)(r q p:Nat)(at_ err:Int)(x:Value)(u u':FrameMode)(hu:u≠.run)
 (hx:∀(c₀:Frame) (cs:List Frame),c₀.mode=u→recoverD (c₀::cs)=some (x,{ c₀ with mode:=u' }::cs)∨(recoverD (c₀::cs)=none∧x=.nilIface∧u'=u)) (hset:settle u'=.returning) (fin:Int)
 (htail:∀a,Ag a 59 [(0,.pointer (some ⟨q,0,none⟩)),(1,.pointer (some ⟨p,0,none⟩)),(2,x)]→(rq Tryz.f148.body).wp Tryz.prog (bodyPost Tryz.prog Tryz.f148 fun e w'=>e=.returned (.tuple #[])∧Sat W w' (dead r at_ err::iA q r::gQ p fin::L)) a w)
 (hA:zN [{ target:=.fn (.func 148) #[.pointer (some ⟨q,0,none⟩),.pointer (some ⟨p,0,none⟩)],args:=#[] }] a 15 E) (h4:find 4 E=some (.pointer (some ⟨p,0,none⟩)))
 (hR:∀w',Sat W w' (dead r at_ err::iA q r::gQ p fin::L)→R (.returned (.int .i64 fin)) w'):Leaves Tryz.prog Tryz.f98 a.tmps R a.defers u w:=by
 rw[hA.defers]
 have hinv:(invoke (.fn (.func 148) #[.pointer (some ⟨q,0,none⟩),.pointer (some ⟨p,0,none⟩)]) #[]).run Tryz.prog w=.ok (.enter 148 #[.pointer (some ⟨q,0,none⟩),.pointer (some ⟨p,0,none⟩)]) w:=by
  have h:=ki (w:=w) (args:=#[.pointer (some ⟨q,0,none⟩),.pointer (some ⟨p,0,none⟩)]) Ke;have e:(#[]:Array Value)++#[.pointer (some ⟨q,0,none⟩),.pointer (some ⟨p,0,none⟩)]=#[.pointer (some ⟨q,0,none⟩),.pointer (some ⟨p,0,none⟩)]:=by simp
  show (callFunc 148 ((#[]:Array Value)++#[.pointer (some ⟨q,0,none⟩),.pointer (some ⟨p,0,none⟩)])).run Tryz.prog w=_;rw[e,h]
 refine leaves_cons hu hinv (CallsD.mono (zj x u u' w q p hx htail) fun e v w' hh=>?_);obtain⟨rfl,rfl,hS⟩:=hh;show Leaves Tryz.prog Tryz.f98 a.tmps R [] (settle v) w';rw[hset]
 have hc:w'.cell? ⟨p,0,none⟩=some (.int .i64 fin):=by
  have h2:=hS.p 2;unfold gQ at h2;exact h2.cell rfl
 have hres:=Lf (P:=Tryz.prog) (w:=w') (s:=4) (t:=27) hA.base h4 jf hc;refine⟨.int .i64 fin,?_,hR w' hS⟩;rw[mW];show (((#[ResultVar.cell 4 27]:Array ResultVar).mapM (sm a.tmps)).bind _).run Tryz.prog w'=_;rw[Sem.run_bind',Gd hres]
 rfl
end Go.Proofs.YtkjabaihpkbfhaaGreat.Wk
namespace Go.Proofs.YtkjabaihpkbfhaaGreat.Wk
open Go Go.RowKit Go.Proofs.YtkjabaihpkbfhaaGreat Go.Proofs.YtkjabaihpkbfhaaGreat.K Go.Proofs.YtkjabaihpkbfhaaGreat.T
open K.D Go.Proofs.YtkjabaihpkbfhaaGreat.T
def pT (ok:Bool)(err at_:Int)(n:Nat):Int:=if err≠0 then err else if ok=false then 8 else if at_<n then 52 else 0
theorem lZ {ok:Bool}{err at_:Int}{n:Nat}(h:ok=true):pT ok err at_ n=if err≠0 then err else if at_<n then 52 else 0:=by subst h;simp[pT]
theorem kN {ok:Bool}{err at_:Int}{n:Nat}(h:ok=false):pT ok err at_ n=if err≠0 then err else 8:=by subst h;simp[pT]
def AH (r:Nat)(ok:Bool)(e:Ending):Prop:=(ok=true∧e=.returned (.tuple #[]))∨(ok=false∧(xS (.iface 271 (.agg #[.pointer (some ⟨r,0,none⟩)])) e∨∃(tx:TypeId) (vx:Value),tx≠271∧xS (.iface tx vx) e))
theorem Gm:∀(l:List PanicEntry),l.all (fun x=>!x.goexit)=true→l.dropWhile (fun x=>!x.goexit)=[]
 | [],_=>rfl
 | x :: l, h => by
   simp only[List.all_cons,Bool.and_eq_true]at h;rw[List.dropWhile_cons,if_pos h.1,Gm l h.2]
theorem B4 {v:Value}{older:List PanicEntry}(ho:older.all (fun x=>!x.goexit)=true):settle (.panicking ({ v:=v,recovered:=true }::older))=.returning:=by
 simp only[settle];rw[Gm older ho]
theorem IE {v:Value}{older:List PanicEntry}(c₀:Frame)(cs:List Frame)(hc:c₀.mode=.panicking ({ v:=v,recovered:=false }::older)):recoverD (c₀::cs)=some (v,{ c₀ with mode:=.panicking ({ v:=v,recovered:=true }::older) }::cs):=by
 simp only[recoverD,hc]
theorem K4 (c₀:Frame)(cs:List Frame)(hc:c₀.mode=.returning):recoverD (c₀::cs)=none:=by
 simp only[recoverD,hc]
theorem jc (W w:World)(L:List As)(A:Option Addr)(c:Nat)(bs:List UInt8)(Φ:Nat→Int→Int→Bool→List As→Prop)(fid:Nat)(caps:List Value)(hS:Sat W w (L))(hb:bs.length≤140737488355328)(hen:enters Tryz.prog fid=true)(hcl:∀(w:World) (r q p:Nat),Sat W w (gY r A c bs 0 true 0::iA q r::gQ p 0::L)→Calls Tryz.prog fid ([Value.pointer (some ⟨r,0,none⟩)]++caps).toArray w fun e w'=>∃(at' err:Int) (ok:Bool) (M:List As),AH r ok e∧Sat W w' (gY r A c bs at' true err::iA q r::gQ p 0::M)∧Φ r at' err ok M):Calls Tryz.prog 98 #[.slice A bs.length c,.func (.func fid) #[] caps.toArray] w fun e w'=>∃(r q p:Nat) (at' err:Int) (ok:Bool) (M:List As),e=.returned (.int .i64 (pT ok err at' bs.length))∧Sat W w' (dead r at' err::iA q r::gQ p (pT ok err at' bs.length)::M)∧Φ r at' err ok M:=by
 refine FK Tryz.func98 rfl rfl rfl (.cons (i:=0) rfl (.cons (i:=1) rfl .nil)) ?_;intro a hA;refine wp_seq_k fun k1 hk1=>?_;refine wp_region_lit ?_;refine goN hA rfl La hS ?_;clear hA a hS;intro b4 w hS a hA;refine wpList_nil ?_;refine hk1 _ _ ?_;clear hk1 k1;refine wp_seq_k fun k2 hk2=>?_;refine wp_region_lit ?_;refine x8 hA rfl rfl rfl (xQ (hA.ev rfl)) ?_;clear hA a;intro a hA;refine x8 hA rfl rfl rfl (aP hA rfl Co) ?_;clear hA a;intro a hA;refine LJ hA rfl rfl hS ?_;clear hA a hS;intro b8 w hS a hA;refine goN hA rfl I9 hS ?_;clear hA a hS;intro b5 w hS a hA;refine mP hA rfl rfl dF Jq rfl hS rfl ?_;clear hS;intro w hS;refine wpList_nil ?_;refine hk2 _ _ ?_;clear hk2 k2;replace hA:=hA.xL (.cons (i:=1) rfl (.cons (i:=4) rfl (.cons (i:=5) rfl .nil)));refine wp_seq_k fun k3 hk3=>?_;refine wp_region_lit ?_
 refine x8 hA rfl rfl rfl (qz (hA.mO rfl)) ?_;clear hA a;intro a hA;refine FB hA rfl ?_;clear hA a;intro a hA;refine wpList_nil ?_;refine hk3 _ _ ?_;clear hk3 k3;replace hA:=hA.xL (.cons (i:=1) rfl (.cons (i:=4) rfl (.cons (i:=5) rfl .nil)));refine wp_seq_k fun k4 hk4=>?_;refine wp_seq_k fun k5 hk5=>?_;refine wp_region_lit ?_;refine x8 hA rfl rfl rfl (xQ (hA.ev rfl)) ?_;clear hA a;intro a hA;refine x8 hA rfl rfl rfl (Hz (hA.ev rfl) (hA.ev rfl) (AO Kb).choose_spec.choose_spec.choose_spec) ?_;clear hA a;intro a hA;refine wpList_nil ?_;refine hk5 _ _ ?_;clear hk5 k5;replace hA:=hA.xL (.cons (i:=1) rfl (.cons (i:=4) rfl (.cons (i:=5) rfl (.cons (i:=11) rfl .nil))));refine wp_cond_true (hA.ev rfl) ?_;refine wp_region_lit ?_;refine x8 hA rfl rfl rfl (xQ (hA.ev rfl)) ?_;clear hA a;intro a hA
 refine x8 hA rfl rfl rfl (aq (hA.ev rfl) dF (by exact hS.cell rfl)) ?_;clear hA a;intro a hA;refine AD hA rfl hen rfl rfl (hcl _ b8 b5 b4 hS.qV) ?_;obtain⟨r,hr⟩:∃r,r=b8:=⟨_,rfl⟩;obtain⟨q,hq⟩:∃q,q=b5:=⟨_,rfl⟩;obtain⟨p,hp⟩:∃p,p=b4:=⟨_,rfl⟩;subst hr hq hp;clear hS;rintro e w ⟨at',err,ok,M,(⟨hok,rfl⟩ | ⟨hok,(⟨older,rfl,ho⟩ | ⟨tx,vx,htx,older,rfl,ho⟩)⟩),hS,hΦ⟩
 ·
  skip
  change Sat W w (a8 r (.cells #[.slice A bs.length c,.int .i64 at',.bool true,.int .i64 err] 269)::a8 q (.cells #[.pointer (some ⟨r,0,none⟩)] 196)::a8 p (.cells #[.int .i64 0] 27)::M) at hS;refine .inl ⟨_,rfl,?_⟩;clear hA a;intro a hA;refine wpList_nil ?_;refine hk4 _ _ ?_;clear hk4 k4;replace hA:=hA.xL (.cons (i:=4) rfl .nil);refine wp_seq_k fun k6 hk6=>?_;refine wp_region_lit ?_;refine mP hA rfl rfl jf rF rfl (hS.p 2) rfl ?_;clear hS;intro w hS;refine wpList_nil ?_;refine hk6 _ _ ?_;clear hk6 k6;refine wp_ret ?_;replace hS:=((hS.p 2).p 2);exact nZ W w M r q p at' err .nilIface .returning .returning (by simp) (fun c₀ cs hc=>.inr ⟨K4 c₀ cs hc,rfl,rfl⟩) rfl (pT ok err at' bs.length) (fun a hA=>by have hh:=Dk W w M r q p A bs.length c at' err 0 true hb a hA hS;rw[lZ hok];exact hh) hA rfl (fun w' hS=>⟨r,q,p,at',err,ok,M,by rfl,hS,hΦ⟩)
 ·
  skip
  refine .inr ⟨_,rfl,?_⟩;refine u0 ?_;clear hk4 k4;change Sat W w (a8 r (.cells #[.slice A bs.length c,.int .i64 at',.bool true,.int .i64 err] 269)::a8 q (.cells #[.pointer (some ⟨r,0,none⟩)] 196)::a8 p (.cells #[.int .i64 0] 27)::M) at hS;exact nZ W w M r q p at' err (.iface 271 (.agg #[.pointer (some ⟨r,0,none⟩)])) (.panicking ({ v:=(.iface 271 (.agg #[.pointer (some ⟨r,0,none⟩)])),recovered:=false }::older)) (.panicking ({ v:=(.iface 271 (.agg #[.pointer (some ⟨r,0,none⟩)])),recovered:=true }::older)) (by simp) (fun c₀ cs hc=>.inl (IE c₀ cs hc)) (B4 ho) (pT ok err at' bs.length) (fun a hA=>by have hh:=CM W w M r q p A bs.length c at' err 0 true hb a hA hS;rw[kN hok];exact hh) hA rfl (fun w' hS=>⟨r,q,p,at',err,ok,M,by rfl,hS,hΦ⟩)
 ·
  skip
  refine .inr ⟨_,rfl,?_⟩;refine u0 ?_;clear hk4 k4;change Sat W w (a8 r (.cells #[.slice A bs.length c,.int .i64 at',.bool true,.int .i64 err] 269)::a8 q (.cells #[.pointer (some ⟨r,0,none⟩)] 196)::a8 p (.cells #[.int .i64 0] 27)::M) at hS;exact nZ W w M r q p at' err (.iface tx vx) (.panicking ({ v:=(.iface tx vx),recovered:=false }::older)) (.panicking ({ v:=(.iface tx vx),recovered:=true }::older)) (by simp) (fun c₀ cs hc=>.inl (IE c₀ cs hc)) (B4 ho) (pT ok err at' bs.length) (fun a hA=>by have hh:=zE W w M r q p A bs.length c at' err 0 true tx vx htx hb a hA hS;rw[kN hok];exact hh) hA rfl (fun w' hS=>⟨r,q,p,at',err,ok,M,by rfl,hS,hΦ⟩)
end Go.Proofs.YtkjabaihpkbfhaaGreat.Wk
namespace Go.Proofs.YtkjabaihpkbfhaaGreat.Wk
open Go Go.RowKit Go.Proofs.YtkjabaihpkbfhaaGreat Go.Proofs.YtkjabaihpkbfhaaGreat.K
def seqB {α:Type}(g:Option α→α→List UInt8):Option α→List α→List UInt8
 | _,[]=>[]
 | p,x::l=>g p x++seqB g (some x) l
def jD {α:Type}(F:Option α→α→Prop):Option α→List α→Prop
 | _,[]=>True
 | p,x::l=>F p x∧jD F (some x) l
theorem qa {α:Type}{f:Option α→α→Bool}:∀ {l:List α} {p:Option α},kB f p l=true↔jD (fun p x=>f p x=true) p l
 | [],_=>by simp[kB,jD]
 | x::l,p=>by rw[kB,jD,Bool.and_eq_true,qa]
theorem wK {α:Type}{F G:Option α→α→Prop}(h:∀p x,F p x→G p x):∀ {l:List α} {p:Option α},jD F p l→jD G p l
 | [],_,_=>trivial
 | _::_,_,hc=>⟨h _ _ hc.1,wK h hc.2⟩
def ft {α:Type}(f:Option α→List UInt8→Option (α×List UInt8)):Nat→Option α→List UInt8→Option (List α×List UInt8)
 | 0,_,l=>some ([],l)
 | n + 1, p, l => match f p l with
   | none=>none
   | some (x, r) => match ft f n (some x) r with
     | none=>none
     | some (xs,r')=>some (x::xs,r')
theorem wU {α:Type}{f:Option α→List UInt8→Option (α×List UInt8)}{n:Nat}{p:Option α}{l:List UInt8}(h:f p l=none):ft f (n+1) p l=none:=by rw[ft,h]
theorem ri {α:Type}{f:Option α→List UInt8→Option (α×List UInt8)}{n:Nat}{p:Option α}{l r:List UInt8}{x:α}(h:f p l=some (x,r)):ft f (n+1) p l=(ft f n (some x) r).map fun q=>(x::q.1,q.2):=by
 rw[ft,h];simp only;cases ft f n (some x) r with
 | none=>rfl
 | some q=>rfl
structure Hm (α:Type) where
 g:Option α→α→List UInt8
 F:Option α→α→Prop
 f:Option α→List UInt8→Option (α×List UInt8)
 P:Option α→Prop
 law:∀p,P p→∀l x r,f p l=some (x,r)↔l=g p x++r∧F p x
 step:∀p x,P p→F p x→P (some x)
theorem Hm.seq {α:Type}(M:Hm α):∀(n:Nat) (p:Option α),M.P p→∀l xs r,ft M.f n p l=some (xs,r)↔l=seqB M.g p xs++r∧jD M.F p xs∧xs.length=n
 | 0, p, hp, l, xs, r => by
   rw[ft];constructor
   ·
    intro h;cases h;exact⟨rfl,trivial,rfl⟩
   ·
    rintro ⟨rfl,_,h⟩;obtain rfl:=List.eq_nil_of_length_eq_zero h
    rfl
 | n + 1, p, hp, l, xs, r => by
   constructor
   ·
    intro h;cases e:M.f p l with
    | none=>rw[wU e]at h;cases h
    | some q =>
      obtain⟨x,l'⟩:=q;rw[ri e]at h;obtain⟨⟨ys,r'⟩,hq,h2⟩:=Option.map_eq_some_iff.1 h;cases h2;obtain⟨rfl,hF⟩:=(M.law p hp l x l').1 e;obtain⟨rfl,hc,hl⟩:=(M.seq n (some x) (M.step p x hp hF) l' ys r').1 hq;exact⟨by rw[seqB,List.append_assoc],⟨hF,hc⟩,by simp[hl]⟩
   ·
    rintro ⟨rfl,hc,hl⟩;cases xs with
    | nil=>cases hl
    | cons x xs =>
      have e:=(M.law p hp (seqB M.g p (x::xs)++r) x (seqB M.g (some x) xs++r)).2 ⟨by rw[seqB,List.append_assoc],hc.1⟩;rw[ri e,(M.seq n (some x) (M.step p x hp hc.1) _ xs r).2 ⟨rfl,hc.2,by simpa using hl⟩]
      rfl
theorem jI {α:Type}{g:Option α→α→List UInt8}{k:Nat}(h:∀p x,k≤(g p x).length):∀(l:List α) (p:Option α),l.length * k≤(seqB g p l).length
 | [],_=>by simp
 | x :: l, p => by
   have:=h p x;have:=jI h l (some x);rw[seqB,List.length_append,List.length_cons,Nat.add_mul];omega
theorem si {α:Type}{g:Option α→α→List UInt8}:∀(l:List α) (p:Option α) (x:α),seqB g p (l++[x])=seqB g p l++g (match l.getLast? with | some y=>some y | none=>p) x
 | [],p,x=>by simp[seqB]
 | y :: l, p, x => by
   rw[List.cons_append,seqB,seqB,si l (some y) x,List.append_assoc]
   congr 3
   cases l with
   | nil=>rfl
   | cons z l =>
     rw[List.getLast?_cons_cons];cases e:(z::l).getLast? with
     | none=>simp at e
     | some y=>rfl
def bP (most:Int)(l:List UInt8):Option (Nat×List UInt8):=if (iO 9 0 l).1=0∧((iO 9 0 l).2.1:Int)≤most then some ((iO 9 0 l).2.1,l.drop (iO 9 0 l).2.2) else none
theorem bD {most:Int}{l r:List UInt8}{v:Nat}:bP most l=some (v,r)↔l=aI v++r∧(v:Int)≤most∧v≤9223372036854775807:=by
 unfold bP;constructor
 ·
  intro h
  split at h
  ·
   rename_i hc;obtain⟨rfl,rfl⟩:(iO 9 0 l).2.1=v∧l.drop (iO 9 0 l).2.2=r:=by simpa using h
   have e:iO 9 0 l=(0,(iO 9 0 l).2.1,(iO 9 0 l).2.2):=Prod.ext hc.1 rfl;obtain⟨_,_,h3,_,h5⟩:=xY 9 0 l _ _ e;refine⟨?_,hc.2,by have:(128:Nat) ^ 9=9223372036854775808:=(by decide);omega⟩;rw[←h5,List.take_append_drop]
  ·
   cases h
 ·
  rintro ⟨rfl,h1,h2⟩;have e:=EH 9 0 v r (by have:(128:Nat) ^ 9=9223372036854775808:=(by decide);omega) (fun h=>absurd h (by omega)) (by omega);rw[e];simp[h1]
def dh (most:Int)(l:List UInt8):Option (List UInt8×List UInt8):=match bP most l with
 | none=>none
 | some (n,r)=>if n≤r.length then some (r.take n,r.drop n) else none
theorem eQ {most:Int}{l r s:List UInt8}:dh most l=some (s,r)↔l=aI s.length++s++r∧(s.length:Int)≤most∧s.length≤9223372036854775807:=by
 unfold dh;constructor
 ·
  intro h
  split at h
  ·
   cases h
  ·
   rename_i n r' e;obtain⟨rfl,h1,h2⟩:=bD.1 e
   split at h
   ·
    rename_i hn;obtain⟨rfl,rfl⟩:r'.take n=s∧r'.drop n=r:=by simpa using h
    have hl:(r'.take n).length=n:=by simp;omega
    rw[hl,List.append_assoc,List.take_append_drop];exact⟨rfl,h1,h2⟩
   ·
    cases h
 ·
  rintro ⟨rfl,h1,h2⟩;rw[List.append_assoc,bD.2 ⟨rfl,h1,h2⟩];simp
theorem xq {bs:List UInt8}{i:Nat}{mo:Int}(h:(gO bs i mo).2.2=0):bP mo (bs.drop i)=some ((gO bs i mo).1,bs.drop (gO bs i mo).2.1):=by
 by_cases h1:(fp bs i).2.2=0
 ·
  by_cases h2:((fp bs i).1:Int)≤mo
  ·
   rw[u5 h1 h2]
   by_cases h3:(iO 9 0 (bs.drop i)).1=0
   ·
    unfold fp at h2 ⊢;rw[if_pos h3]at h2 ⊢;simp only at h2 ⊢;unfold bP;rw[if_pos ⟨h3,h2⟩,List.drop_drop]
   ·
    unfold fp at h1;rw[if_neg h3]at h1;exact absurd h1 h3
  ·
   rw[ug h1 (by omega)]at h;cases h
 ·
  rw[sZ h1]at h;exact absurd h h1
theorem tf {bs:List UInt8}{i:Nat}{mo:Int}(h:(gO bs i mo).2.2≠0):bP mo (bs.drop i)=none:=by
 unfold bP;rw[if_neg];rintro ⟨h1,h2⟩;apply h;have h3:fp bs i=((iO 9 0 (bs.drop i)).2.1,i+(iO 9 0 (bs.drop i)).2.2,0):=by unfold fp;rw[if_pos h1]
 rw[u5 (by rw[h3]) (by rw[h3];exact h2)]
theorem E9 {bs:List UInt8}{i:Nat}{mo:Int}(h:(nD bs i mo).2.2=0):dh mo (bs.drop i)=some ((nD bs i mo).1,bs.drop (nD bs i mo).2.1):=by
 by_cases h1:(gO bs i mo).2.2=0
 ·
  by_cases h2:(gO bs i mo).1≤bs.length-(gO bs i mo).2.1
  ·
   rw[tK h1 h2];unfold dh;rw[xq h1];simp only;rw[if_pos (by rw[List.length_drop];exact h2),List.drop_drop]
  ·
   rw[oI h1 (by omega)]at h;cases h
 ·
  rw[sT h1]at h;exact absurd h h1
theorem wZ {bs:List UInt8}{i:Nat}{mo:Int}(h:(nD bs i mo).2.2≠0):dh mo (bs.drop i)=none:=by
 unfold dh
 by_cases h1:(gO bs i mo).2.2=0
 ·
  rw[xq h1];simp only;rw[if_neg];intro h2;rw[List.length_drop]at h2;rw[tK h1 h2]at h;exact h rfl
 ·
  rw[tf h1]
def ly (most:Int):Hm Int where
 g _ x:=aI x.toNat
 F _ x:=0≤x∧x≤most∧x≤9223372036854775807
 f _ l := match bP most l with
   | none=>none
   | some (v,r)=>some ((v:Int),r)
 P _:=True
 step _ _ _ _:=trivial
 law p _ l x r:=by
  constructor
  ·
   intro h
   split at h
   ·
    cases h
   ·
    rename_i v r' e;cases h;obtain⟨rfl,h1,h2⟩:=bD.1 e;exact⟨by simp,by omega,h1,by omega⟩
  ·
   rintro ⟨rfl,h1,h2,h3⟩;rw[bD.2 ⟨rfl,by omega,by omega⟩];simp[Int.toNat_of_nonneg h1]
def cJ (p:Option aO):Int:=match p with | some q=>q.rep | none=>0
def bC (vec:List Int)(p:Option aO)(rep:Int):Int:=match p with
 | some q=>if q.rep=rep then q.hi+2 else ay vec rep.toNat+2
 | none=>ay vec rep.toNat+2
def jB (vec:List Int)(p:Option aO)(s:aO):List UInt8:=aI (s.rep-cJ p).toNat++(aI (s.lo-bC vec p s.rep).toNat++aI (s.hi-s.lo).toNat)
def gJ (vec:List Int)(p:Option aO)(l:List UInt8):Option (aO×List UInt8):=match bP 16 l with
 | none=>none
 | some (st, l1) => if 16 ≤ cJ p + st then none else match bP 1000000000 l1 with
   | none=>none
   | some (sk, l2) => match bP 1000000000 l2 with
     | none=>none
     | some (mo,l3)=>if 1000000000<bC vec p (cJ p+st)+sk+mo then none else some (⟨cJ p+st,bC vec p (cJ p+st)+sk,bC vec p (cJ p+st)+sk+mo⟩,l3)
def sW (vec:List Int)(hv:∀r,0≤ay vec r):Hm aO where
 g:=jB vec
 F p s:=gV vec p s=true
 f:=gJ vec
 P p:=∀q,p=some q→0≤q.rep∧0≤q.hi∧q.lo≤q.hi
 step p x hp h q hq:=by
  cases hq;unfold gV at h;simp only[Bool.and_eq_true,decide_eq_true_eq]at h;refine⟨h.1.1.1.1,?_,h.1.1.2⟩;have h2:=h.2;have:=hv x.rep.toNat;cases p with
  | none=>simp at h2;omega
  | some y =>
    have h3:=(hp y rfl).2.1;simp only[Bool.and_eq_true,decide_eq_true_eq]at h2;have h4:=h2.2
    split at h4<;>simp at h4<;>omega
 law p hp l x r:=by
  have hpr:0≤cJ p:=by unfold cJ;cases p with | none=>simp | some q=>exact (hp q rfl).1
  have hls:∀rep,0≤bC vec p rep:=fun rep=>by
   unfold bC;have:=hv rep.toNat;cases p with
   | none=>simp only;omega
   | some q=>have:=(hp q rfl).2.1;simp only;split<;>omega
  have hF:gV vec p x=true↔0≤x.rep∧x.rep<16∧x.lo≤x.hi∧x.hi≤1000000000∧cJ p≤x.rep∧bC vec p x.rep≤x.lo:=by
   unfold gV bC cJ;cases p with
   | none=>simp;omega
   | some q =>
     simp only[Bool.and_eq_true,decide_eq_true_eq];constructor
     ·
      rintro ⟨⟨⟨⟨a,b⟩,c⟩,d⟩,e,f⟩;refine⟨a,b,c,d,e,?_⟩
      split at f<;>rename_i he
      ·
       rw[if_pos he];simpa using f
      ·
       rw[if_neg he];simpa using f
     ·
      rintro ⟨a,b,c,d,e,f⟩;refine⟨⟨⟨⟨a,b⟩,c⟩,d⟩,e,?_⟩
      split at f<;>rename_i he
      ·
       rw[if_pos he];simpa using f
      ·
       rw[if_neg he];simpa using f
  rw[hF];unfold gJ jB;constructor
  ·
   intro h
   split at h
   ·
    cases h
   ·
    rename_i st l1 e1
    split at h
    ·
     cases h
    ·
     rename_i hst
     split at h
     ·
      cases h
     ·
      rename_i sk l2 e2
      split at h
      ·
       cases h
      ·
       rename_i mo l3 e3
       split at h
       ·
        cases h
       ·
        rename_i hhi;obtain⟨rfl,_,_⟩:=bD.1 e1;obtain⟨rfl,_,_⟩:=bD.1 e2;obtain⟨rfl,_,_⟩:=bD.1 e3;cases h;have:=hls (cJ p+st);refine⟨?_,by simp only;omega,by simp only;omega,by simp only;omega,by simp only;omega,by simp only;omega,by simp only;omega⟩;simp only;rw[show (cJ p+(st:Int)-cJ p).toNat=st from by omega,show (bC vec p (cJ p+st)+(sk:Int)-bC vec p (cJ p+st)).toNat=sk from by omega,show (bC vec p (cJ p+st)+(sk:Int)+(mo:Int)-(bC vec p (cJ p+st)+(sk:Int))).toNat=mo from by omega];simp only[List.append_assoc]
  ·
   rintro ⟨rfl,a,b,c,d,e,f⟩;have:=hls x.rep;rw[List.append_assoc,bD.2 ⟨rfl,by omega,by omega⟩];simp only;have e1:cJ p+((x.rep-cJ p).toNat:Int)=x.rep:=by omega
   rw[e1,if_neg (by omega),List.append_assoc,bD.2 ⟨rfl,by omega,by omega⟩];simp only;rw[bD.2 ⟨rfl,by omega,by omega⟩];simp only;have e2:bC vec p x.rep+((x.lo-bC vec p x.rep).toNat:Int)=x.lo:=by omega
   have e3:x.lo+((x.hi-x.lo).toNat:Int)=x.hi:=by omega
   rw[e2,e3,if_neg (by omega)]
def cL (p:aL):List UInt8:=aI p.vec.length++(seqB (ly 1000000000).g none p.vec++(aI p.ab.length++seqB (jB p.vec) none p.ab))
def fu (l:List UInt8):Option (aL×List UInt8):=match bP 16 l with
 | none=>none
 | some (n, l1) => match ft (ly 1000000000).f n none l1 with
   | none=>none
   | some (vec, l2) => match bP 9223372036854775807 l2 with
     | none=>none
     | some (k, l3) => match ft (gJ vec) k none l3 with
       | none=>none
       | some (ab,r)=>some (⟨vec,ab⟩,r)
theorem oe {most:Int}:∀ {l:List Int} {p:Option Int},jD (ly most).F p l↔∀v∈l,0≤v∧v≤most∧v≤9223372036854775807
 | [],_=>by simp[jD]
 | x::l,p=>by rw[jD,oe];simp[ly]
theorem tl {v:List Int}(h:∀x∈v,0≤x)(r:Nat):0≤ay v r:=by
 unfold ay;cases e:v[r]? with
 | none=>simp
 | some x=>exact h x (List.mem_of_getElem? e)
theorem jk {l r:List UInt8}{p:aL}(hp:p.ab.length≤9223372036854775807):fu l=some (p,r)↔l=cL p++r∧Ca p:=by
 unfold fu cL;constructor
 ·
  intro h
  split at h
  ·
   cases h
  ·
   rename_i n l1 e1
   split at h
   ·
    cases h
   ·
    rename_i vec l2 e2
    split at h
    ·
     cases h
    ·
     rename_i k l3 e3
     split at h
     ·
      cases h
     ·
      rename_i ab r' e4;cases h;obtain⟨rfl,h1,_⟩:=bD.1 e1;obtain⟨rfl,h3,h4⟩:=((ly 1000000000).seq _ none trivial _ _ _).1 e2;obtain⟨rfl,_,_⟩:=bD.1 e3;have hv:=oe.1 h3;obtain⟨rfl,h5,h6⟩:=((sW vec (tl fun x hx=>(hv x hx).1)).seq _ none (fun q hq=>by cases hq) _ _ _).1 e4;subst h4 h6;refine⟨by simp only[List.append_assoc];rfl,⟨by show vec.length≤16;omega,fun v hx=>⟨(hv v hx).1,(hv v hx).2.1⟩,qa.2 h5⟩⟩
 ·
  rintro ⟨rfl,h1,h2,h3⟩;rw[List.append_assoc,bD.2 ⟨rfl,by omega,by omega⟩];simp only;rw[List.append_assoc,((ly 1000000000).seq _ none trivial _ _ _).2 ⟨rfl,oe.2 fun v hv=>⟨(h2 v hv).1,(h2 v hv).2,by have:=(h2 v hv).2;omega⟩,rfl⟩];simp only;rw[List.append_assoc,bD.2 ⟨rfl,by omega,hp⟩];simp only;have e:=((sW p.vec (tl fun x hx=>(h2 x hx).1)).seq p.ab.length none (fun q hq=>by cases hq) (seqB (jB p.vec) none p.ab++r) p.ab r).2 ⟨rfl,qa.1 h3,rfl⟩;rw[show ft (gJ p.vec) p.ab.length none (seqB (jB p.vec) none p.ab++r)=some (p.ab,r) from e]
theorem wO (vec:List Int)(p:Option aO)(s:aO):3≤(jB vec p s).length:=by
 unfold jB;have:=cE (s.rep-cJ p).toNat;have:=cE (s.lo-bC vec p s.rep).toNat;have:=cE (s.hi-s.lo).toNat;simp only[List.length_append];omega
theorem EN {α:Type}(M:Hm α){c k:Nat}{p:Option α}{l r:List UInt8}{xs:List α}(hp:M.P p)(hk:∀p x,k≤(M.g p x).length)(h:ft M.f c p l=some (xs,r)):xs.length=c∧c * k+r.length≤l.length:=by
 obtain⟨rfl,_,h3⟩:=(M.seq c p hp l xs r).1 h;have:=jI hk xs p;subst h3;rw[List.length_append];exact⟨rfl,by omega⟩
def bB (p:Option aV):Int:=match p with | some q=>q.rep | none=>0
def dK (p:Option aV)(rep:Int):Int:=match p with
 | some q=>if q.rep=rep then q.num+1 else 1
 | none=>1
def mM (p:Option aV)(e:aV):List UInt8:=aI (e.rep-bB p).toNat++(aI (e.num-dK p e.rep).toNat++(aI e.cy.data.toList.length++(e.cy.data.toList++aI (e.p4-1).toNat)))
def mw (p:Option aV)(l:List UInt8):Option (aV×List UInt8):=match bP 16 l with
 | none=>none
 | some (st, l1) => match bP 1000000000 l1 with
   | none=>none
   | some (sk, l2) => if 16 ≤ bB p + st ∨ 1000000000 < dK p (bB p + st) + sk then none else match dh 24 l2 with
     | none=>none
     | some (t, l3) => match bP 1000000 l3 with
       | none=>none
       | some (q,l4)=>some (⟨bB p+st,dK p (bB p+st)+sk,str t,q+1⟩,l4)
def oB (p:Option aV)(e:aV):Prop:=0≤e.rep∧e.rep<16∧1≤e.num∧e.num≤1000000000∧e.cy.data.toList.length≤24∧1≤e.p4∧e.p4≤1000001∧bB p≤e.rep∧dK p e.rep≤e.num
theorem zp (s:ByteArray):str s.data.toList=s:=by cases s;rfl
theorem yl (l:List UInt8):(str l).data.toList=l:=rfl
def x6:Hm aV where
 g:=mM
 F:=oB
 f:=mw
 P p:=∀q,p=some q→0≤q.rep∧0≤q.num
 step p x hp h q hq:=by cases hq;exact⟨h.1,by have:=h.2.2.1;omega⟩
 law p hp l x r:=by
  have hpr:0≤bB p:=by unfold bB;cases p with | none=>simp | some q=>exact (hp q rfl).1
  have hls:∀rep,1≤dK p rep:=fun rep=>by
   unfold dK;cases p with
   | none=>simp
   | some q=>have:=(hp q rfl).2;simp only;split<;>omega
  unfold mw mM oB;constructor
  ·
   intro h
   split at h
   ·
    cases h
   ·
    rename_i st l1 e1
    split at h
    ·
     cases h
    ·
     rename_i sk l2 e2
     split at h
     ·
      cases h
     ·
      rename_i hc
      split at h
      ·
       cases h
      ·
       rename_i t l3 e3
       split at h
       ·
        cases h
       ·
        rename_i q l4 e4;cases h;obtain⟨rfl,_,_⟩:=bD.1 e1;obtain⟨rfl,_,_⟩:=bD.1 e2;obtain⟨rfl,h5,_⟩:=eQ.1 e3;obtain⟨rfl,h6,_⟩:=bD.1 e4;have:=hls (bB p+st);simp only[yl];refine⟨?_,by omega,by omega,by omega,by omega,by omega,by omega,by omega,by omega,by omega⟩;rw[show (bB p+(st:Int)-bB p).toNat=st from by omega,show (dK p (bB p+st)+(sk:Int)-dK p (bB p+st)).toNat=sk from by omega,show ((q:Int)+1-1).toNat=q from by omega];simp only[List.append_assoc]
  ·
   rintro ⟨rfl,a,b,c,d,e,f,g,i,j⟩;have:=hls x.rep;rw[List.append_assoc,bD.2 ⟨rfl,by omega,by omega⟩];simp only;rw[List.append_assoc,bD.2 ⟨rfl,by omega,by omega⟩];simp only;have e1:bB p+((x.rep-bB p).toNat:Int)=x.rep:=by omega
   have e2:dK p x.rep+((x.num-dK p x.rep).toNat:Int)=x.num:=by omega
   rw[e1,e2,if_neg (by omega)];have e3:=(eQ (most:=24) (l:=aI x.cy.data.toList.length++(x.cy.data.toList++aI (x.p4-1).toNat)++r) (s:=x.cy.data.toList) (r:=aI (x.p4-1).toNat++r)).2 ⟨by simp only[List.append_assoc],by omega,by omega⟩;rw[e3];simp only;rw[bD.2 ⟨rfl,by omega,by omega⟩];simp only[zp];rw[show ((x.p4-1).toNat:Int)+1=x.p4 from by omega]
theorem EA (p:Option aV)(e:aV):5-1≤(mM p e).length:=by
 unfold mM;have:=cE (e.rep-bB p).toNat;have:=cE (e.num-dK p e.rep).toNat;have:=cE e.cy.data.toList.length;have:=cE (e.p4-1).toNat;simp only[List.length_append];omega
def cK (es:List aV):List UInt8:=aI es.length++seqB mM none es
theorem kI {es:List aV}(h:cd es=true):jD oB none es:=by
 refine wK (F:=fun p x=>eK p x=true) ?_ (qa.1 h);intro p x h;unfold eK fU dD at h;simp only[Bool.and_eq_true,decide_eq_true_eq]at h;obtain⟨⟨⟨⟨⟨⟨⟨a,b⟩,c⟩,d⟩,s⟩,q⟩,r⟩,k⟩:=h
 have hs:x.cy.data.toList.length≤24:=by
  unfold mv Cc pZ at s
  split at s
  ·
   simp at s
  ·
   split at s
   ·
    simp at s
   ·
    omega
 refine⟨a,b,c,d,hs,q,by omega,?_,?_⟩
 ·
  unfold bB;cases p with
  | none=>exact a
  | some y=>unfold nf at k;simp at k;simp only;omega
 ·
  unfold dK;cases p with
  | none=>exact c
  | some y=>unfold nf at k;simp at k;simp only;split<;>omega
def jd (_:Option bW)(r:bW):List UInt8:=aI r.cy.data.toList.length++(r.cy.data.toList++cL r.bF)
def sO (_:Option bW)(l:List UInt8):Option (bW×List UInt8):=match dh 24 l with
 | none=>none
 | some (t, l1) => match fu l1 with
   | none=>none
   | some (p,r)=>some (⟨str t,p⟩,r)
def D1 (_:Option bW)(r:bW):Prop:=r.cy.data.toList.length≤24∧Ca r.bF∧r.bF.ab.length≤9223372036854775807
theorem zt {l r:List UInt8}{p:aL}(h:fu l=some (p,r)):p.ab.length≤9223372036854775807:=by
 unfold fu at h
 split at h
 ·
  cases h
 ·
  split at h
  ·
   cases h
  ·
   rename_i vec l2 e2
   split at h
   ·
    cases h
   ·
    rename_i k l3 e3
    split at h
    ·
     cases h
    ·
     rename_i ab r' e4;cases h;obtain⟨_,h3,_⟩:=((ly 1000000000).seq _ none trivial _ _ _).1 e2;have hv:=oe.1 h3;obtain⟨_,_,h6⟩:=((sW vec (tl fun x hx=>(hv x hx).1)).seq _ none (fun q hq=>by cases hq) _ _ _).1 e4;have:=(bD.1 e3).2.2;show ab.length≤_;omega
def xj:Hm bW where
 g:=jd
 F:=D1
 f:=sO
 P _:=True
 step _ _ _ _:=trivial
 law p hp l x r:=by
  unfold sO jd D1;constructor
  ·
   intro h
   split at h
   ·
    cases h
   ·
    rename_i t l1 e1
    split at h
    ·
     cases h
    ·
     rename_i q r' e2;cases h;have hc:=zt e2;obtain⟨rfl,h1,_⟩:=eQ.1 e1;obtain⟨rfl,h2⟩:=(jk hc).1 e2;simp only[yl];exact⟨by simp only[List.append_assoc],by omega,h2,hc⟩
  ·
   rintro ⟨rfl,h1,h2,h3⟩;have e3:=(eQ (most:=24) (l:=aI x.cy.data.toList.length++(x.cy.data.toList++cL x.bF)++r) (s:=x.cy.data.toList) (r:=cL x.bF++r)).2 ⟨by simp only[List.append_assoc],by omega,by omega⟩;rw[e3];simp only;rw[(jk h3).2 ⟨rfl,h2⟩];simp only[zp]
def cj (rs:List bW):List UInt8:=aI rs.length++seqB jd none rs
end Go.Proofs.YtkjabaihpkbfhaaGreat.Wk
namespace Go.Proofs.YtkjabaihpkbfhaaGreat.Wk
open Go Go.RowKit Go.Proofs.YtkjabaihpkbfhaaGreat Go.Proofs.YtkjabaihpkbfhaaGreat.K Go.Proofs.YtkjabaihpkbfhaaGreat.T
def pE (p:Nat)(A:Option Addr)(c:Nat)(bs:List UInt8)(bad:Bool):As:=a8 p (.cells #[.slice A bs.length c,.bool bad] 449)
theorem cV (W w:World)(L:List As)(p:Nat)(A:Option Addr)(c:Nat)(bs:List UInt8)(bad:Bool)(n:Int)(hS:Sat W w (pE p A c (bs) bad::row 5 1 (.slice A (bs).length c) (bs).length ((bs).map an)::L))(hl:bs.length≤140737488350000)(hn:n≤9223372036854775807):Calls Tryz.prog 90 #[.pointer (some ⟨p,0,none⟩),.int .i64 n] w fun e w'=>e=.returned (.tuple #[])∧∃A' c',Sat W w' (pE p A' c' (bs++(pb 1 n false .empty).1) (bad || !(pb 1 n false .empty).2)::row 5 1 (.slice A' (bs++(pb 1 n false .empty).1).length c') (bs++(pb 1 n false .empty).1).length ((bs++(pb 1 n false .empty).1).map an)::L):=by
 refine enter Tryz.func90 rfl rfl rfl (.cons (i:=0) rfl (.cons (i:=1) rfl .nil)) ?_;intro a hA;change Sat W w (a8 p (.cells #[.slice A bs.length c,.bool bad] 449)::_) at hS;refine rC 4 hA ?_;clear hA a;refine nb 0 0 (tN rfl rfl wy) ?_ ?_
 ·intro h5;intro a hA;contradiction
 ·intro h5;refine uO 9 ?_;refine aR 0 0 (aw rfl rfl) ?_ ?_
  ·intro h7;refine uO 6 ?_;refine u1 0 (a7 rfl) ?_;refine u1 0 (aa rfl sY) ?_;intro a hA;refine mP hA rfl rfl Dz GO rfl hS rfl ?_;clear hS;intro w hS;refine rO 4 hA ?_;clear hA a;intro a hA;refine jg hA rfl  ?_
   first
    | (rw[FW (by omega)];refine⟨rfl,A,c,?_⟩;simp only[List.append_nil,Bool.not_false,Bool.or_true];exact hS)
    | (rw[p5 (by omega),Int.toNat_natCast];refine⟨rfl,A1,c1,?_⟩;simp only[Bool.not_true,Bool.or_false];exact hS)
  ·intro h7;refine uO 8 ?_;refine u1 0 (a7 rfl) ?_;refine u1 0 (aa rfl jo) ?_;refine u1 0 (ld rfl fZ) ?_;obtain⟨m,rfl⟩:=Int.eq_ofNat_of_zero_le (show 0≤n by omega);refine uO 1 ?_;refine uF Bp rfl (kr _ _ _ _ _ _ m (hS.p 1) (by omega) (by omega)) ?_;clear hS;rintro e w ⟨A1,c1,rfl,hS⟩;refine⟨_,rfl,?_⟩;refine u1 0 (a7 rfl) ?_;refine u1 0 (aa rfl jo) ?_;intro a hA;refine mP hA rfl rfl fZ jz rfl (hS.p 1) rfl ?_;clear hS;intro w hS;refine rO 1 hA ?_;clear hA a;intro a hA;refine fM (e:=.ret) ?_;refine jg hA rfl  ?_
   first
    | (rw[FW (by omega)];refine⟨rfl,A,c,?_⟩;simp only[List.append_nil,Bool.not_false,Bool.or_true];exact hS)
    | (rw[p5 (by omega),Int.toNat_natCast];refine⟨rfl,A1,c1,?_⟩;simp only[Bool.not_true,Bool.or_false];exact hS)
theorem ng (W w:World)(L:List As)(p:Nat)(A:Option Addr)(c:Nat)(bs:List UInt8)(bad:Bool)(s:ByteArray)(hS:Sat W w (pE p A c (bs) bad::row 5 1 (.slice A (bs).length c) (bs).length ((bs).map an)::L))(hl:bs.length≤140737488350000)(hl2:bs.length+s.size≤140737488350000):Calls Tryz.prog 391 #[.pointer (some ⟨p,0,none⟩),.string s] w fun e w'=>e=.returned (.tuple #[])∧∃A' c',Sat W w' (pE p A' c' (bs++(pb 3 0 false s).1) bad::row 5 1 (.slice A' (bs++(pb 3 0 false s).1).length c') (bs++(pb 3 0 false s).1).length ((bs++(pb 3 0 false s).1).map an)::L):=by
 refine enter Tryz.func391 rfl rfl rfl (.cons (i:=0) rfl (.cons (i:=1) rfl .nil)) ?_;intro a hA;change Sat W w (a8 p (.cells #[.slice A bs.length c,.bool bad] 449)::_) at hS;refine rC 3 hA ?_;clear hA a;refine nb 0 0 (D2 rfl rfl wy) ?_ ?_
 ·intro h5;refine uO 6 ?_;refine u1 0 (a7 rfl) ?_;refine u1 0 (aa rfl jo) ?_;refine u1 1 (ld rfl fZ) ?_;refine uF Js rfl (vP _ _ _ _ _ _ s (hS.p 1) (by omega)) ?_;clear hS;rintro e w ⟨A1,c1,rfl,hS⟩;refine⟨_,rfl,?_⟩;refine u1 0 (a7 rfl) ?_;refine u1 0 (aa rfl jo) ?_;intro a hA;refine mP hA rfl rfl fZ jz rfl (hS.p 1) rfl ?_;clear hS;intro w hS;refine rO 1 hA ?_;clear hA a;intro a hA;refine fM (e:=.ret) ?_;refine jg hA rfl  ?_;exact⟨rfl,_,_,hS⟩
 ·intro h5;intro a hA;contradiction
theorem na (W:World)(W0:World)(L:List As)(p:Nat)(A:Option Addr)(c:Nat)(bs:List UInt8)(bad:Bool)(s0:Sat W0 W (pE p A c (bs) bad::L))(hR:Rd W 1 (.slice A bs.length c) bs.length (bs.map an))(hl:bs.length≤140737488350000):Calls Tryz.prog 92 #[.pointer (some ⟨p,0,none⟩)] W fun e w'=>∃A' c',e=.returned (.tuple #[.slice A' (if bad then [] else bs).length c',.int .i64 (((if bad then 2 else 0):Nat):Int)])∧Sat W w' [row 5 1 (.slice A' (if bad then [] else bs).length c') (if bad then [] else bs).length ((if bad then [] else bs).map an)]:=by
 refine enter Tryz.func92 rfl rfl rfl (.cons (i:=0) rfl .nil) ?_;have hS:=Sat.start W;intro a hA;change Sat W0 W (a8 p (.cells #[.slice A bs.length c,.bool bad] 449)::L) at s0;refine rC 10 hA ?_;clear hA a;refine nb 0 0 (tN rfl rfl wy) ?_ ?_
 ·intro h5;intro a hA;contradiction
 ·intro h5;refine uO 2 ?_;refine u1 0 (a7 rfl) ?_;refine u1 0 (aa rfl sY) ?_;refine u1 0 (aq rfl Dz (s0.qv hS rfl)) ?_;refine nb 0 0 (uf rfl rfl) ?_ ?_
  ·intro h11;refine uO 11 ?_;refine fy ?_
   first
    | (subst h11;exact⟨none,0,rfl,hS.aY 5 1⟩)
    | (subst h11;exact⟨_,_,rfl,hS⟩)
  ·intro h11;refine uO 8 ?_;refine u1 0 (a7 rfl) ?_;refine u1 0 (aa rfl jo) ?_;refine u1 0 (aq rfl fZ (s0.qv hS rfl)) ?_;refine uF DM rfl (nT _ _ _ bs (hR.sat hS) (by omega)) ?_;rintro e w ⟨A1,c1,rfl,hT⟩;replace hS:=hS.aB hT;clear hT;refine⟨_,rfl,?_⟩;refine uO 5 ?_;refine fy ?_
   first
    | (subst h11;exact⟨none,0,rfl,hS.aY 5 1⟩)
    | (subst h11;exact⟨_,_,rfl,hS⟩)
end Go.Proofs.YtkjabaihpkbfhaaGreat.Wk
namespace Go.Proofs.YtkjabaihpkbfhaaGreat.Wk
open Go Go.RowKit Go.Proofs.YtkjabaihpkbfhaaGreat Go.Proofs.YtkjabaihpkbfhaaGreat.K
theorem dX {α:Type}{g:Option α→α→List UInt8}{xs:List α}{i:Nat}{x:α}(h:xs[i]?=some x):seqB g none (xs.take (i+1))=seqB g none (xs.take i)++g (ahead none xs i) x:=by
 rw[aD h,si]
 congr 2
 have hi:=(List.getElem?_eq_some_iff.1 h).1;unfold ahead
 by_cases h0:i=0
 ·
  subst h0;simp
 ·
  rw[if_neg h0]
  have:(xs.take i).getLast?=xs[i-1]?:=by
   rw[List.getLast?_eq_getElem?,List.length_take,Nat.min_eq_left (by omega),List.getElem?_take,if_pos (by omega)]
  rw[this,List.getElem?_eq_getElem (by omega)]
theorem Cf {α:Type}{xs:List α}{i:Nat}(hi:i≤xs.length):(xs.take i).getLast?=ahead none xs i:=by
 unfold ahead
 by_cases h0:i=0
 ·
  subst h0;simp
 ·
  rw[if_neg h0,List.getLast?_eq_getElem?,List.length_take,Nat.min_eq_left hi,List.getElem?_take,if_pos (by omega)]
theorem cC {α:Type}{xs:List α}{i:Nat}{x:α}(h:xs[i]?=some x):ahead none xs (i+1)=some x:=by unfold ahead;rw[if_neg (by omega)];exact h
theorem B9 {vec:List Int}{p:Option aO}{s:aO}(h:gV vec p s=true):0≤s.rep∧s.rep<16∧s.lo≤s.hi∧s.hi≤1000000000∧cJ p≤s.rep∧bC vec p s.rep≤s.lo:=by
 unfold gV at h;unfold bC cJ;cases p with
 | none=>simp at h;simp only;omega
 | some q =>
   simp only[Bool.and_eq_true,decide_eq_true_eq]at h;obtain⟨⟨⟨⟨a,b⟩,c⟩,d⟩,e,f⟩:=h;refine⟨a,b,c,d,e,?_⟩;simp only
   split at f<;>rename_i he
   ·
    rw[if_pos he];simpa using f
   ·
    rw[if_neg he];simpa using f
theorem gD {p:aL}(h:Ca p){i:Nat}{s:aO}(hs:p.ab[i]?=some s):0≤s.rep∧s.rep<16∧s.lo≤s.hi∧s.hi≤1000000000∧cJ (ahead none p.ab i)≤s.rep∧bC p.vec (ahead none p.ab i) s.rep≤s.lo:=B9 (lC h.ab i s hs)
theorem qH {p:aL}(h:Ca p):∀(i:Nat) (s:aO),p.ab[i]?=some s→1≤s.lo:=by
 intro i
 induction i with
 | zero =>
   intro s hs;obtain⟨a,b,c,d,f,g⟩:=gD h hs;have hv:=dH h.vec s.rep.toNat;simp[ahead,bC]at g;omega
 | succ i ih =>
   intro s hs;have hi:=(List.getElem?_eq_some_iff.1 hs).1;have hq:p.ab[i]?=some p.ab[i]:=List.getElem?_eq_getElem (by omega);obtain⟨a,b,c,d,f,g⟩:=gD h hs;rw[cC hq]at g;have hv:=dH h.vec s.rep.toNat;have h1:=ih _ hq;have h2:=(gD h hq).2.2.1;unfold bC at g;simp only at g
   split at g<;>omega
theorem qJ {p:aL}(h:Ca p){i:Nat}(r:Int):0≤bC p.vec (ahead none p.ab i) r∧bC p.vec (ahead none p.ab i) r≤1000000002:=by
 have hv:=dH h.vec r.toNat;unfold bC;cases e:ahead none p.ab i with
 | none=>simp only;omega
 | some q =>
   simp only
   split
   ·
    unfold ahead at e
    split at e
    ·
     cases e
    ·
     obtain⟨a,b,c,d,f,g⟩:=gD h e;have:=qH h _ _ e;omega
   ·
    omega
theorem sy {p:aL}(h:Ca p)(i:Nat):0≤cJ (ahead none p.ab i):=by
 unfold cJ;cases e:ahead none p.ab i with
 | none=>simp
 | some q =>
   unfold ahead at e
   split at e
   ·
    cases e
   ·
    exact (gD h e).1
theorem xF {es:List aV}(h:jD oB none es){i:Nat}{e:aV}(he:es[i]?=some e):oB (ahead none es i) e:=by
 have:∀(l:List aV) (p:Option aV) (i:Nat) (e:aV),jD oB p l→l[i]?=some e→oB (ahead p l i) e:=by
  intro l
  induction l with
  | nil=>intro p i e _ h;simp at h
  | cons y l ih =>
    intro p i e hc hi;cases i with
    | zero=>simp at hi;subst hi;simpa[ahead]using hc.1
    | succ i =>
      have h1:=ih (some y) i e hc.2 (by simpa using hi)
      have e2:ahead p (y::l) (i+1)=ahead (some y) l i:=by
       unfold ahead;simp;cases i with
       | zero=>simp
       | succ i=>simp
      rw[e2];exact h1
 exact this es none i e h he
theorem wx {α:Type}{enc:α→List Value}{k:Nat}(hk:∀x,(enc x).length=k):∀(xs:List α) (i:Nat),(xs.flatMap enc).take (i * k)=(xs.take i).flatMap enc
 | xs,0=>by simp
 | [],i+1=>by simp
 | x :: xs, i + 1 => by
   rw[List.flatMap_cons,List.take_append,List.take_of_length_le (by rw[hk,Nat.add_mul];omega),hk,show (i+1) * k-k=i * k from by rw[Nat.add_mul];omega,wx hk xs i]
   rfl
theorem Df {w:World}{A:Option Addr}{c n i:Nat}{xs:List aO}(h:Rd w 3 (.slice A n c) n (xs.flatMap gx))(hi:i≤n):Rd w 3 (.slice (ja A c 3 0) i c) i ((xs.take i).flatMap gx):=by
 have:=Rd.GV h i hi;rwa[wx yR]at this
theorem pK {vec:List Int}{cl:List aO}{n:Nat}{s:aO}(hn:n=cl.length)(hs:cl[n-1]?=some s):cl.getLast?=some s:=by subst hn;rw[List.getLast?_eq_getElem?];exact hs
end Go.Proofs.YtkjabaihpkbfhaaGreat.Wk
namespace Go.Proofs.YtkjabaihpkbfhaaGreat.Wk
open Go Go.RowKit Go.Proofs.YtkjabaihpkbfhaaGreat Go.Proofs.YtkjabaihpkbfhaaGreat.K Go.Proofs.YtkjabaihpkbfhaaGreat.T
theorem sx (W:World)(A:Option Addr)(c:Nat)(vec:List Int)(r:Int)(B:Option Addr)(n d:Nat)(cl:List aO)(hV:j0 W A c vec)(hC:Rd W 3 (.slice B n d) n (cl.flatMap gx))(hn:n=cl.length)(hr0:0≤r)(hr1:r≤1000)(hv0:∀v∈vec,0≤v∧v≤1000000000)(hc0:∀s∈cl,0≤s.hi∧s.hi≤1000000000)(hl1:vec.length≤1000000000000)(hl2:n≤1000000000000):Calls Tryz.prog 392 #[.slice A (vec).length c,.int .i64 r,.slice B n d] W fun e w'=>e=.returned (.int .i64 (bC vec cl.getLast? r))∧Sat W w' []:=by
 refine enter Tryz.func392 rfl rfl rfl (.cons (i:=0) rfl (.cons (i:=1) rfl (.cons (i:=2) rfl .nil))) ?_;have hS:=Sat.start W;refine uC 9 ?_;refine u1 6 (ar rfl dm) ?_;refine aR 0 0 (dv rfl rfl) ?_ ?_
 ·intro h11;refine uO 3 ?_;refine u1 0 (aJ (aZ rfl rfl (by omega) (by omega)) (show _=Value.int .i64 ((n-1:Nat):Int) from congrArg (Value.int .i64) (by omega))) ?_;obtain⟨B_p,rfl⟩:∃q,B=some q:=(hC.sat hS).av (by omega);obtain⟨s,hs⟩:∃zz_,cl[n-1]?=some zz_:=⟨_,List.getElem?_eq_getElem (by omega)⟩;obtain⟨hs1,hs2⟩:=hc0 s (List.mem_of_getElem? hs);refine u1 0 (aj rfl rfl dm cA (by omega) (by omega)) ?_;refine u1 0 (aA rfl bV) ?_;refine u1 1 (aq rfl aQ (bJ (hC.sat hS) (dC hs 0 _ rfl))) ?_;refine aR 0 0 (bn rfl rfl) ?_ ?_
  ·intro h20;refine uO 8 ?_;refine u1 0 (aJ (aZ rfl rfl (by omega) (by omega)) (show _=Value.int .i64 ((n-1:Nat):Int) from congrArg (Value.int .i64) (by omega))) ?_;refine u1 0 (aj rfl rfl dm cA (by omega) (by omega)) ?_;refine u1 0 (aA rfl dR) ?_;refine u1 0 (aq rfl aQ (bJ (hC.sat hS) (dC hs 2 _ rfl))) ?_;refine u1 3 (ah rfl rfl (by omega) (by omega)) ?_;intro a hA;replace hA:=hA.kp [0,1,6] rfl;refine rC 2 hA ?_;clear hA a;refine aX ?_;refine⟨?_,hS⟩;unfold bC;rw[pK (vec:=vec) hn hs];simp only;rw[if_pos h20]
  ·intro h20;refine uO 11 ?_;refine u1 0 (ar rfl aE) ?_;refine aR 0 0 (aw rfl rfl) ?_ ?_
   ·intro h32;refine uO 2 ?_;intro a hA;replace hA:=hA.kp [0,1,6,32] rfl;refine rC 5 hA ?_;clear hA a;obtain⟨A_p,rfl⟩:∃q,A=some q:=(hV.sat hS).av (by omega);obtain⟨v,hv⟩:∃zz_,vec[r.toNat]?=some zz_:=⟨_,List.getElem?_eq_getElem (by omega)⟩;obtain⟨hv1,hv2⟩:=hv0 v (List.mem_of_getElem? hv);refine u1 0 (aj rfl rfl aE fQ (by omega) (by omega)) ?_;refine u1 0 (aq rfl aQ (gb (hV.sat hS) (bu hv))) ?_;refine u1 5 (ah rfl rfl (by omega) (by omega)) ?_;refine aX ?_;refine⟨?_,hS⟩;unfold bC;rw[pK (vec:=vec) hn hs];simp only;rw[if_neg h20,show ay vec r.toNat=v from by unfold ay;rw[hv]]
   ·intro h32;refine uO 2 ?_;intro a hA;replace hA:=hA.kp [0,1,6,32] rfl;refine rC 9 hA ?_;clear hA a;refine aX ?_;refine⟨?_,hS⟩;unfold bC;rw[pK (vec:=vec) hn hs];simp only;rw[if_neg h20,eB (by omega)]
    rfl
 ·intro h11;refine uO 20 ?_;refine u1 0 (ar rfl aE) ?_;refine aR 0 0 (aw rfl rfl) ?_ ?_
  ·intro h32;refine uO 2 ?_;intro a hA;replace hA:=hA.kp [0,1,6,32] rfl;refine rC 5 hA ?_;clear hA a;obtain⟨A_p,rfl⟩:∃q,A=some q:=(hV.sat hS).av (by omega);obtain⟨v,hv⟩:∃zz_,vec[r.toNat]?=some zz_:=⟨_,List.getElem?_eq_getElem (by omega)⟩;obtain⟨hv1,hv2⟩:=hv0 v (List.mem_of_getElem? hv);refine u1 0 (aj rfl rfl aE fQ (by omega) (by omega)) ?_;refine u1 0 (aq rfl aQ (gb (hV.sat hS) (bu hv))) ?_;refine u1 5 (ah rfl rfl (by omega) (by omega)) ?_;refine aX ?_;refine⟨?_,hS⟩;unfold bC;obtain rfl:cl=[]:=List.eq_nil_of_length_eq_zero (by omega);rw[show ([]:List aO).getLast?=none from rfl];simp only;rw[show ay vec r.toNat=v from by unfold ay;rw[hv]]
  ·intro h32;refine uO 2 ?_;intro a hA;replace hA:=hA.kp [0,1,6,32] rfl;refine rC 9 hA ?_;clear hA a;refine aX ?_;refine⟨?_,hS⟩;unfold bC;obtain rfl:cl=[]:=List.eq_nil_of_length_eq_zero (by omega);rw[show ([]:List aO).getLast?=none from rfl];simp only;rw[eB (by omega)]
   rfl
theorem sl (W w:World)(L:List As)(p:Nat)(A:Option Addr)(c:Nat)(bs:List UInt8)(bad:Bool)(q:PL)(hS:Sat W w (pE p A c (bs) bad::row 5 1 (.slice A (bs).length c) (bs).length ((bs).map an)::L))(hp:q.ok W)(hk:Ca q.d)(hcl:q.d.ab.length≤1000000000)(hl:bs.length≤1000000000000):Calls Tryz.prog 378 #[.pointer (some ⟨p,0,none⟩),.agg #[.slice q.va q.d.vec.length q.vc,.slice q.ca q.d.ab.length q.cc]] w fun e w'=>e=.returned (.tuple #[])∧∃A' c',Sat W w' (pE p A' c' (bs++cL q.d) bad::row 5 1 (.slice A' (bs++cL q.d).length c') (bs++cL q.d).length ((bs++cL q.d).map an)::L):=by
 refine enter Tryz.func378 rfl rfl rfl (.cons (i:=0) rfl (.cons (i:=1) rfl .nil)) ?_;obtain⟨va,vc,ca,cc,d⟩:=q;have hpv:j0 W va vc d.vec:=hp.vec;have hpc:gK W ca cc d.ab:=hp.ab;have hcc:=El hpc;have hkl:=hk.len;intro a hA;dsimp only at hk hcl hkl hA ⊢;have hvl:d.vec.length≤16:=hkl;have hn0:=bf (n:=((d.vec.length:Nat):Int).toNat) (by omega);have hnc:=bf (n:=((d.ab.length:Nat):Int).toNat) (by omega);refine rC 2 hA ?_;clear hA a;refine uB rfl hS ?_;clear hS;intro b3 w hS;refine uO 3 ?_;intro a hA;refine fj (l1:=[_,_,_,_,_,_]) (l2:=[_]) rfl (by kernel_rfl) (by kernel_rfl) ?_;replace hS:=hS.drew;refine rT 1 hA ?_;clear hA a;refine eO 0 (a7 rfl) ?_;refine eO 0 (aa rfl dT) ?_;refine eO 0 (aa rfl cw) ?_;refine eO 0 (ld rfl cW) ?_;refine eO 0 (ar rfl aE) ?_;intro a hA;refine wpStill_nil ?_
 refine yk hA rfl jS rfl (cV _ _ _ p _ _ _ bad _ ((hS.p 2).p 2) (by omega) (by omega)) ?_;clear hA a;clear hS;rintro e w ⟨rfl,A15,c15,hS⟩;rw[p5 (by omega)]at hS;simp only[Bool.not_true,Bool.or_false]at hS;refine⟨_,rfl,?_⟩;refine uO 5 ?_;refine u1 0 (aa rfl cw) ?_;refine u1 0 (ld rfl cW) ?_;refine u1 4 (ar rfl aE) ?_;intro a hA
 refine wp_loop_ghost (fun (mm:Nat) a w=>∃(i:Nat) (out:List UInt8) (Ao:Option Addr) (co:Nat),Ag a 80 [(0,.pointer (some ⟨p,0,none⟩)),(3,.pointer (some ⟨b3,0,none⟩)),(17,.slice va (d.vec).length vc),(18,.int .i64 ((d.vec.length:Nat):Int)),(19,.int .i64 ((i:Nat):Int))]∧Sat W w (pE p Ao co (out) bad::row 5 1 (.slice Ao (out).length co) (out).length ((out).map an)::a8 b3 (.cells #[.slice va d.vec.length vc,.slice ca d.ab.length cc] 63)::L)∧(i≤d.vec.length)∧(out=bs++(aI d.vec.length++seqB (ly 1000000000).g none (d.vec.take i)))∧(out.length≤bs.length+9 * (i+1))∧mm=d.vec.length-i) d.vec.length ?_ ?_
 ·replace hA:=hA.kp [0,3,17,18,19] rfl;exact⟨0,_,_,_,hA,hS,(by omega),(by rw[Int.toNat_natCast];simp[seqB]),(by simp only[List.length_append];omega),by omega⟩
 intro m a w hI;clear hS hA;obtain⟨i,out,Ao,co,hA,hS,hi,ho,hol,rfl⟩:=hI;refine rC 2 hA ?_;clear hA a;refine aR 0 0 (aw rfl rfl) ?_ ?_
 ·intro h20;refine uO 10 ?_;obtain⟨va_p,rfl⟩:∃q,va=some q:=(hpv.sat hS).av (by omega);obtain⟨x,hx⟩:∃zz_,d.vec[i]?=some zz_:=⟨_,List.getElem?_eq_getElem (by omega)⟩;obtain⟨hx0,hx1⟩:=hk.vec x (List.mem_of_getElem? hx);have hnx:=bf (n:=x.toNat) (by omega);refine u1 0 (aj rfl rfl aE fQ (by omega) (by omega)) ?_;refine u1 5 (aq rfl aQ (gb (hpv.sat hS) (bu hx))) ?_;refine u1 0 (a7 rfl) ?_;refine u1 1 (aa rfl dT) ?_;refine uF jS rfl (cV _ _ _ p _ _ _ bad x hS (by omega) (by omega)) ?_;clear hS;rintro e w ⟨rfl,A27,c27,hS⟩;rw[p5 (by omega)]at hS;simp only[Bool.not_true,Bool.or_false]at hS;refine⟨_,rfl,?_⟩;refine uO 3 ?_;intro a hA;replace hA:=hA.kp [0,3,5,17,18,19,20,21,22,23,24,25,26] rfl;refine rC 1 hA ?_;clear hA a;refine u1 2 (ah rfl rfl (by omega) (by omega)) ?_;intro a hA;replace hA:=hA.kp [0,3,17,18,19] rfl
  refine⟨d.vec.length-(i+1),by omega,i+1,out++aI x.toNat,_,_,hA,hS,by omega,?_,by simp only[List.length_append];omega,rfl⟩;rw[dX hx,ho];simp only[List.append_assoc]
  rfl
 ·intro h20;refine uO 10 ?_;intro a hA;refine fj (l1:=[_,_,_,_,_,_]) (l2:=[_]) rfl (by kernel_rfl) (by kernel_rfl) ?_;replace hS:=hS.drew;refine rT 1 hA ?_;clear hA a;refine eO 0 (a7 rfl) ?_;refine eO 0 (aa rfl dT) ?_;refine eO 0 (aa rfl bZ) ?_;refine eO 0 (ld rfl eM) ?_;refine eO 0 (ar rfl dm) ?_;intro a hA;refine wpStill_nil ?_;refine yk hA rfl jS rfl (cV _ _ _ p _ _ _ bad _ hS (by omega) (by omega)) ?_;clear hA a;clear hS;rintro e w ⟨rfl,A35,c35,hS⟩;rw[p5 (by omega)]at hS;simp only[Bool.not_true,Bool.or_false]at hS;refine⟨_,rfl,?_⟩;refine uO 2 ?_;intro a hA;replace hA:=hA.kp [0,3] rfl;refine rC 7 hA ?_;clear hA a;refine u1 0 (aa rfl bZ) ?_;refine u1 0 (ld rfl eM) ?_;refine u1 4 (ar rfl dm) ?_;intro a hA
  refine wp_loop_ghost (fun (mm:Nat) a w=>∃(i:Nat) (out:List UInt8) (Ao:Option Addr) (co:Nat),Ag a 80 [(0,.pointer (some ⟨p,0,none⟩)),(3,.pointer (some ⟨b3,0,none⟩)),(6,.int .i64 ((cJ (ahead none d.ab i)))),(37,.slice ca (d.ab).length cc),(38,.int .i64 ((d.ab.length:Nat):Int)),(39,.int .i64 ((i:Nat):Int))]∧Sat W w (pE p Ao co (out) bad::row 5 1 (.slice Ao (out).length co) (out).length ((out).map an)::a8 b3 (.cells #[.slice va d.vec.length vc,.slice ca d.ab.length cc] 63)::L)∧(i≤d.ab.length)∧(out=bs++(aI d.vec.length++(seqB (ly 1000000000).g none d.vec++(aI d.ab.length++seqB (jB d.vec) none (d.ab.take i)))))∧(out.length≤bs.length+200+27 * i)∧mm=d.ab.length-i) d.ab.length ?_ ?_
  ·replace hA:=hA.kp [0,3,6,37,38,39] rfl;exact⟨0,_,_,_,hA,hS,(by omega),(by rw[ho,Int.toNat_natCast,List.take_of_length_le (by omega)];simp[seqB]),(by simp only[List.length_append];omega),by omega⟩
  intro m a w hI;clear hS hA;obtain⟨i,out,Ao,co,hA,hS,hi,ho,hol,rfl⟩:=hI;refine rC 2 hA ?_;clear hA a;refine aR 0 0 (aw rfl rfl) ?_ ?_
  ·intro h40;refine uO 11 ?_;obtain⟨ca_p,rfl⟩:∃q,ca=some q:=(hpc.sat hS).av (by omega);obtain⟨s,hs⟩:∃zz_,d.ab[i]?=some zz_:=⟨_,List.getElem?_eq_getElem (by omega)⟩;obtain⟨hs0,hs1,hs2,hs3,hs4,hs5⟩:=gD hk hs;obtain⟨hl0,hl1⟩:=qJ hk (i:=i) s.rep;have hp0:=sy hk i;have hn1:=bf (n:=(s.rep-cJ (ahead none d.ab i)).toNat) (by omega);have hn2:=bf (n:=(s.lo-bC d.vec (ahead none d.ab i) s.rep).toNat) (by omega);have hn3:=bf (n:=(s.hi-s.lo).toNat) (by omega);have hsl:=qH hk i s hs;refine u1 0 (aj rfl rfl dm cA (by omega) (by omega)) ?_;refine u1 0 (ad (cs:=gx s) rfl i6 cA (fun j u e=>bJ (hpc.sat hS) (dC hs j u e))) ?_;refine uN mg hS ?_;clear hS;intro b8 w hS;refine uO 1 ?_;refine uW (vs:=[_,_,_]) (cs':=[_,_,_]) rfl rfl cA hS ?_;clear hS;intro w hS;refine uO 3 ?_;intro a hA
   refine fj (l1:=[_,_,_,_,_,_,_]) (l2:=[_]) rfl (by kernel_rfl) (by kernel_rfl) ?_;replace hS:=hS.drew;refine rT 1 hA ?_;clear hA a;refine eO 0 (a7 rfl) ?_;refine eO 0 (aa rfl dT) ?_;refine eO 0 (aa rfl bV) ?_;refine eO 1 (ld rfl aQ) ?_;refine eO 0 (aZ rfl rfl (by omega) (by omega)) ?_;intro a hA;refine wpStill_nil ?_;refine yk hA rfl jS rfl (cV _ _ _ p _ _ _ bad _ ((hS.p 2).p 2) (by omega) (by omega)) ?_;clear hA a;clear hS;rintro e w ⟨rfl,A51,c51,hS⟩;rw[p5 (by omega)]at hS;simp only[Bool.not_true,Bool.or_false]at hS;refine⟨_,rfl,?_⟩;refine uO 2 ?_;intro a hA;replace hA:=hA.kp [0,3,6,7,8,37,38,39,40,41,42,43,44,45,46,47,48,49,50] rfl;refine rC 1 hA ?_;clear hA a;intro a hA;refine bh [15] hS (by kernel_rfl) ?_;replace hS:=hS.drew;refine rX [0] hA ?_;clear hA a
   refine bz 1 [] rfl (fun w=>(a7 rfl)) ?_;refine bz 2 [] rfl (fun w=>(aa rfl dT)) ?_;refine bz 3 [] rfl (fun w=>(aa rfl dS)) ?_;refine cT 4 [] rfl (by exact⟨[],hS⟩) (fun w hT=>have hS:=hT.sat;(ld rfl aQ)) ?_;refine bz 5 [] rfl (fun w=>(aa rfl cw)) ?_;refine cT 6 [] rfl (by exact⟨[],hS⟩) (fun w hT=>have hS:=hT.sat;(ld rfl cW)) ?_;refine bz 7 [] rfl (fun w=>(aa rfl bV)) ?_;refine cT 8 [] rfl (by exact⟨[],hS⟩) (fun w hT=>have hS:=hT.sat;(ld rfl aQ)) ?_;refine bz 9 [] rfl (fun w=>(aa rfl bZ)) ?_;refine cT 10 [11] rfl (by exact⟨[],hS⟩) (fun w hT=>have hS:=hT.sat;(ld rfl eM)) ?_;refine bz 12 [] rfl (fun w=>(aJ (oN rfl rfl dm cA (by omega) (by omega)) (show _=Value.slice (ja (some ca_p) cc 3 0) i cc from rfl))) ?_;intro a hA;refine aG 13 (by kernel_rfl) ?_
   refine eF hA rfl rfl GK rfl (sx _ va vc d.vec s.rep _ i _ (d.ab.take i) (hpv.sat hS) (Df (hpc.sat hS) (by omega)) (by rw[List.length_take];omega) hs0 (by omega) hk.vec (fun z hz=>by obtain⟨k,hz⟩:=List.mem_iff_getElem?.1 (List.mem_of_mem_take hz);have:=gD hk hz;have:=qH hk k z hz;omega) (by omega) (by omega)) ?_;clear hA a;rintro e w ⟨rfl,hT⟩;rw[Cf hi];replace hS:Sat _ _ _:=hS.ai hT;clear hT;refine⟨_,rfl,?_⟩;intro a hA;refine⟨.inr fun _=>(by exact⟨[],hS⟩),?_⟩;refine P1 14 [] hA rfl (fun w=>(aZ (hA.ev rfl) (hA.ev rfl) (by omega) (by omega))) ?_;clear hA a;intro a hA;refine aG 15 (by kernel_rfl) ?_;refine eF hA rfl rfl jS rfl (cV _ _ _ p _ _ _ bad _ hS (by (simp only[List.length_append];omega)) (by omega)) ?_
   clear hA a;clear hS;rintro e w ⟨rfl,A67,c67,hS⟩;rw[p5 (by omega)]at hS;simp only[Bool.not_true,Bool.or_false]at hS;refine⟨_,rfl,?_⟩;intro a hA;refine⟨.inl rfl,?_⟩;refine ak (by kernel_rfl) ?_ _;refine rE 2 hA ?_;clear hA a;intro a hA;refine fj (l1:=[_,_,_,_,_,_,_,_]) (l2:=[_]) rfl (by kernel_rfl) (by kernel_rfl) ?_;replace hS:=hS.drew;refine rT 1 hA ?_;clear hA a;refine eO 0 (a7 rfl) ?_;refine eO 0 (aa rfl dT) ?_;refine eO 0 (aa rfl dR) ?_;refine eO 0 (ld rfl aQ) ?_;refine eO 0 (aa rfl dS) ?_;refine eO 0 (ld rfl aQ) ?_;refine eO 0 (aZ rfl rfl (by omega) (by omega)) ?_;intro a hA;refine wpStill_nil ?_;refine yk hA rfl jS rfl (cV _ _ _ p _ _ _ bad _ hS (by (simp only[List.length_append];omega)) (by omega)) ?_
   clear hA a;clear hS;rintro e w ⟨rfl,A76,c76,hS⟩;rw[p5 (by omega)]at hS;simp only[Bool.not_true,Bool.or_false]at hS;refine⟨_,rfl,?_⟩;refine uO 3 ?_;refine u1 0 (aa rfl bV) ?_;refine u1 5 (ld rfl aQ) ?_;refine u1 2 (ah rfl rfl (by omega) (by omega)) ?_;intro a hA;replace hA:=hA.kp [0,3,6,37,38,39] rfl;rw[show s.rep=cJ (ahead none d.ab (i+1)) from by rw[cC hs];rfl]at hA;refine⟨d.ab.length-(i+1),by omega,i+1,_,_,_,hA,(hS.p 2).drop,by omega,?_,by simp only[List.length_append];omega,rfl⟩;rw[dX hs,ho];simp only[List.append_assoc]
   rfl
  ·intro h40;refine uO 8 ?_;intro a hA;refine fM (e:=.ret) ?_;refine jg hA rfl  ?_;have hie:i=d.ab.length:=by omega
   rw[hie,List.take_length]at ho;rw[show bs++cL d=out from by rw[ho];rfl];exact⟨rfl,Ao,co,(hS.p 2).drop⟩
end Go.Proofs.YtkjabaihpkbfhaaGreat.Wk
namespace Go.Proofs.YtkjabaihpkbfhaaGreat.Wk
open Go Go.RowKit Go.Proofs.YtkjabaihpkbfhaaGreat Go.Proofs.YtkjabaihpkbfhaaGreat.K
theorem KZ {bs:List UInt8}{i:Nat}{mo:Int}(h:(gO bs i mo).2.2=0):∃v at':Nat,gO bs i mo=(v,at',0)∧bP mo (bs.drop i)=some (v,bs.drop at')∧at'≤bs.length∧(v:Int)≤mo∧v≤9223372036854775807:=by
 have h1:=xq h
 have h2:(fp bs i).2.2=0:=by
  by_cases h2:(fp bs i).2.2=0
  ·
   exact h2
  ·
   rw[sZ h2]at h;exact absurd h h2
 have h3:((fp bs i).1:Int)≤mo:=by
  by_cases h3:((fp bs i).1:Int)≤mo
  ·
   exact h3
  ·
   rw[ug h2 (by omega)]at h;cases h
 have h4:=rM h2;rw[u5 h2 h3]at h1 ⊢;exact⟨_,_,rfl,h1,h4.2.1,h3,h4.2.2.1⟩
theorem LP {bs:List UInt8}{i:Nat}{ea:Int}(he:1≤ea)(h:(Ch bs i ea).2.2=0):∃v at':Nat,Ch bs i ea=(v,at',0)∧bP 9223372036854775807 (bs.drop i)=some (v,bs.drop at')∧at'≤bs.length∧v * ea.toNat≤bs.length-at':=by
 by_cases h2:(fp bs i).2.2=0
 ·
  by_cases h3:((bs.length:Int)-((fp bs i).2.1:Int)) / max ea 1<((fp bs i).1:Int)
  ·
   rw[wT h2 h3]at h;simp at h
  ·
   obtain⟨hm1,hm2⟩:=xK (bs:=bs) (i:=i);have h4:=rM h2;obtain⟨v,a,hu,hn,ha,_,_⟩:=KZ (bs:=bs) (i:=i) (mo:=9223372036854775807) (by rw[hm1];exact h2);have e1:=(hm2 h2).1;have e2:=(hm2 h2).2;rw[hu]at e1 e2;dsimp only at e1 e2;refine⟨(fp bs i).1,(fp bs i).2.1,Aq h2 h3,by rw[←e1,←e2];exact hn,h4.2.1,?_⟩;rw[show max ea 1=ea from by omega]at h3;have h5:((fp bs i).1:Int)≤((bs.length:Int)-((fp bs i).2.1:Int)) / ea:=by omega
   have h6:=(Int.le_ediv_iff_mul_le (by omega:0<ea)).1 h5;have h7:(((fp bs i).1 * ea.toNat:Nat):Int)=((fp bs i).1:Int) * ea:=by rw[Int.natCast_mul,Int.toNat_of_nonneg (by omega)]
   have:=h4.2.1;omega
 ·
  rw[Bh h2]at h;exact absurd h h2
theorem Hv {bs:List UInt8}{i:Nat}{ea:Int}(he:1≤ea)(h:(Ch bs i ea).2.2≠0):bP 9223372036854775807 (bs.drop i)=none∨∃(v:Nat) (r:List UInt8),bP 9223372036854775807 (bs.drop i)=some (v,r)∧r.length<v * ea.toNat:=by
 obtain⟨hm1,hm2⟩:=xK (bs:=bs) (i:=i)
 by_cases h2:(fp bs i).2.2=0
 ·
  by_cases h3:((bs.length:Int)-((fp bs i).2.1:Int)) / max ea 1<((fp bs i).1:Int)
  ·
   right
   have h4:=rM h2;obtain⟨v,a,hu,hn,ha,_,_⟩:=KZ (bs:=bs) (i:=i) (mo:=9223372036854775807) (by rw[hm1];exact h2);have e1:=(hm2 h2).1;have e2:=(hm2 h2).2;rw[hu]at e1 e2;dsimp only at e1 e2;refine⟨v,_,hn,?_⟩;rw[show max ea 1=ea from by omega]at h3;rw[←e1,←e2]at h3;have h5:¬((v:Int)≤((bs.length:Int)-(a:Int)) / ea):=by omega
   have h6:¬((v:Int) * ea≤(bs.length:Int)-(a:Int)):=fun hc=>h5 ((Int.le_ediv_iff_mul_le (by omega:0<ea)).2 hc)
   have h7:((v * ea.toNat:Nat):Int)=(v:Int) * ea:=by rw[Int.natCast_mul,Int.toNat_of_nonneg (by omega)]
   rw[List.length_drop];omega
  ·
   rw[Aq h2 h3]at h;exact absurd rfl h
 ·
  left;exact tf (by rw[hm1];exact h2)
theorem LK {bs:List UInt8}{i:Nat}{mo:Int}(h:(nD bs i mo).2.2=0):∃(s:List UInt8) (at':Nat),nD bs i mo=(s,at',0)∧dh mo (bs.drop i)=some (s,bs.drop at')∧at'≤bs.length:=by
 have h1:=E9 h;refine⟨(nD bs i mo).1,(nD bs i mo).2.1,by rw[←h],h1,?_⟩
 by_cases h2:(gO bs i mo).2.2=0
 ·
  by_cases h3:(gO bs i mo).1≤bs.length-(gO bs i mo).2.1
  ·
   rw[tK h2 h3];obtain⟨v,a,hu,_,ha,_,_⟩:=KZ h2;rw[hu]at h3 ⊢;dsimp only at h3 ⊢;omega
  ·
   rw[oI h2 (by omega)]at h;simp at h
 ·
  rw[sT h2]at h;exact absurd h h2
def nV (p:Option aV):Int:=match p with | some q=>q.num+1 | none=>1
theorem mF {p:Option aV}{r:Int}(h:r≠bB p):dK p r=1:=by
 unfold dK;unfold bB at h;cases p with
 | none=>rfl
 | some q=>simp only at h ⊢;rw[if_neg (fun e=>h e.symm)]
theorem lg {p:Option aV}{r:Int}(h:r=bB p):dK p r=nV p:=by
 unfold dK nV;unfold bB at h;cases p with
 | none=>rfl
 | some q=>simp only at h ⊢;rw[if_pos h.symm]
theorem xG {es:List aV}(h:jD oB none es)(i:Nat):1≤nV (ahead none es i)∧nV (ahead none es i)≤1000000001:=by
 unfold nV;cases e:ahead none es i with
 | none=>simp
 | some q =>
   unfold ahead at e
   split at e
   ·
    cases e
   ·
    have:=xF h e;unfold oB at this;simp only;omega
theorem wv {es:List aV}(h:jD oB none es)(i:Nat)(r:Int):1≤dK (ahead none es i) r∧dK (ahead none es i) r≤1000000001:=by
 by_cases e:r=bB (ahead none es i)
 ·
  rw[lg e];exact xG h i
 ·
  rw[mF e];omega
theorem qg {es:List aV}(h:jD oB none es)(i:Nat):0≤bB (ahead none es i):=by
 unfold bB;cases e:ahead none es i with
 | none=>simp
 | some q =>
   unfold ahead at e
   split at e
   ·
    cases e
   ·
    exact (xF h e).1
theorem xU {α:Type}{g:Option α→α→List UInt8}:∀(xs:List α) (p:Option α) (i:Nat),(seqB g p (xs.take i)).length≤(seqB g p xs).length
 | [],p,i=>by simp
 | x::xs,p,0=>by simp[seqB]
 | x :: xs, p, i + 1 => by
   rw[List.take_succ_cons,seqB,seqB,List.length_append,List.length_append];have:=xU (g:=g) xs (some x) i;omega
theorem oH {r:bW}(h:fx r=true):r.cy.data.toList.length≤24∧y9 r.bF:=by
 unfold fx at h;simp only[Bool.and_eq_true,Bool.or_eq_true,decide_eq_true_eq]at h;refine⟨?_,gq.1 h.2.1⟩;rcases h.1 with h1 | h1
 ·
  rw[h1];simp
 ·
  unfold mv Cc pZ at h1
  split at h1
  ·
   simp at h1
  ·
   split at h1
   ·
    simp at h1
   ·
    omega
end Go.Proofs.YtkjabaihpkbfhaaGreat.Wk
namespace Go.Proofs.YtkjabaihpkbfhaaGreat.Wk
open Go Go.RowKit Go.Proofs.YtkjabaihpkbfhaaGreat Go.Proofs.YtkjabaihpkbfhaaGreat.K Go.Proofs.YtkjabaihpkbfhaaGreat.T
theorem yv (W w:World)(L:List As)(p:Nat)(A:Option Addr)(c:Nat)(bs:List UInt8)(bad:Bool)(B:Option Addr)(d:Nat)(xs:List aV)(hS:Sat W w (pE p A c (bs) bad::row 5 1 (.slice A (bs).length c) (bs).length ((bs).map an)::L))(hX:fI W B d xs)(hk:jD oB none xs)(hxl:xs.length≤1000000000)(hl:bs.length≤1000000000000):Calls Tryz.prog 377 #[.pointer (some ⟨p,0,none⟩),.slice B (xs).length d] w fun e w'=>e=.returned (.tuple #[])∧∃A' c',Sat W w' (pE p A' c' (bs++cK xs) bad::row 5 1 (.slice A' (bs++cK xs).length c') (bs++cK xs).length ((bs++cK xs).map an)::L):=by
 refine enter Tryz.func377 rfl rfl rfl (.cons (i:=0) rfl (.cons (i:=1) rfl .nil)) ?_;have hn0:=bf (n:=((xs.length:Nat):Int).toNat) (by omega);refine uC 3 ?_;refine u1 0 (a7 rfl) ?_;refine u1 1 (aa rfl dT) ?_;refine u1 0 (ar rfl bA) ?_;refine uF jS rfl (cV _ _ _ p _ _ _ bad _ hS (by omega) (by omega)) ?_;clear hS;rintro e w ⟨rfl,A13,c13,hS⟩;rw[p5 (by omega)]at hS;simp only[Bool.not_true,Bool.or_false]at hS;refine⟨_,rfl,?_⟩;refine uO 11 ?_;refine u1 4 (ar rfl bA) ?_;intro a hA
 refine wp_loop_ghost (fun (mm:Nat) a w=>∃(i:Nat) (out:List UInt8) (Ao:Option Addr) (co:Nat),Ag a 64 [(0,.pointer (some ⟨p,0,none⟩)),(4,.int .i64 ((bB (ahead none xs i)))),(5,.int .i64 ((nV (ahead none xs i)))),(14,.slice B (xs).length d),(15,.int .i64 ((xs.length:Nat):Int)),(16,.int .i64 ((i:Nat):Int))]∧Sat W w (pE p Ao co (out) bad::row 5 1 (.slice Ao (out).length co) (out).length ((out).map an)::L)∧(i≤xs.length)∧(out=bs++(aI xs.length++seqB mM none (xs.take i)))∧(out.length≤bs.length+9+60 * i)∧mm=xs.length-i) xs.length ?_ ?_
 ·replace hA:=hA.kp [0,4,5,14,15,16] rfl;exact⟨0,_,_,_,hA,hS,(by omega),(by rw[Int.toNat_natCast];simp[seqB]),(by simp only[List.length_append];omega),by omega⟩
 intro m a w hI;clear hS hA;obtain⟨i,out,Ao,co,hA,hS,hi,ho,hol,rfl⟩:=hI;refine rC 2 hA ?_;clear hA a;refine aR 0 0 (aw rfl rfl) ?_ ?_
 ·intro h17;refine uO 10 ?_;obtain⟨B_p,rfl⟩:∃q,B=some q:=(hX.sat hS).av (by omega);obtain⟨x,hx⟩:∃zz_,xs[i]?=some zz_:=⟨_,List.getElem?_eq_getElem (by omega)⟩;have hw:=xF hk hx;intro a hA;unfold oB at hw;obtain⟨hw0,hw1,hw2,hw3,hw4,hw5,hw6,hw7,hw8⟩:=hw;have hp0:=qg hk i;obtain⟨hq0,hq1⟩:=wv hk i x.rep;obtain⟨hq2,hq3⟩:=xG hk i;have hn1:=bf (n:=(x.rep-bB (ahead none xs i)).toNat) (by omega);have hn3:=bf (n:=x.cy.data.toList.length) (by omega);have hn4:=bf (n:=(x.p4-1).toNat) (by omega);refine o1 0 hA (aj (hA.ev rfl) (hA.ev rfl) bA cX (by omega) (by omega)) ?_;clear hA a;refine u1 0 (ad (cs:=mC x) rfl ml cX (fun j u e=>bJ (hX.sat hS) (cP hx j u e))) ?_;refine uN BY hS ?_;clear hS;intro b7 w hS;refine uW (vs:=[_,_,_,_]) (cs':=[_,_,_,_]) rfl rfl cX hS ?_;clear hS;intro w hS
  refine uO 5 ?_;refine u1 0 (aa rfl cm) ?_;refine u1 0 (aa rfl bw) ?_;refine u1 1 (ld rfl aQ) ?_;refine aR 0 0 (aK rfl rfl) ?_ ?_
  ·intro h24;have hnx0:dK (ahead none xs i) x.rep=1:=mF h24;have hn2:=bf (n:=(x.num-1).toNat) (by omega);refine uO 8 ?_;intro a hA;refine fj (l1:=[_,_,_,_,_,_,_,_]) (l2:=[_]) rfl (by kernel_rfl) (by kernel_rfl) ?_;replace hS:=hS.drew;refine rT 1 hA ?_;clear hA a;refine eO 0 (a7 rfl) ?_;refine eO 0 (aa rfl dT) ?_;refine eO 0 (aa rfl cm) ?_;refine eO 0 (aa rfl bw) ?_;refine eO 1 (ld rfl aQ) ?_;refine eO 0 (aZ rfl rfl (by omega) (by omega)) ?_;intro a hA;refine wpStill_nil ?_;refine yk hA rfl jS rfl (cV _ _ _ p _ _ _ bad _ ((hS.p 2).p 2) (by omega) (by omega)) ?_;clear hA a;clear hS;rintro e w ⟨rfl,A33,c33,hS⟩;rw[p5 (by omega)]at hS;simp only[Bool.not_true,Bool.or_false]at hS;refine⟨_,rfl,?_⟩;refine uO 2 ?_;intro a hA
   replace hA:=hA.kp [0,4,5,7,14,15,16,17,18,19,20,21,22,23,24,25,26,27,28,29,30,31,32] rfl;refine rC 1 hA ?_;clear hA a;intro a hA;refine fj (l1:=[_,_,_,_,_,_,_,_]) (l2:=[_]) rfl (by kernel_rfl) (by kernel_rfl) ?_;replace hS:=hS.drew;refine rT 1 hA ?_;clear hA a;refine eO 0 (a7 rfl) ?_;refine eO 0 (aa rfl dT) ?_;refine eO 0 (aa rfl cm) ?_;refine eO 0 (aa rfl bQ) ?_;refine eO 1 (ld rfl aQ) ?_;refine eO 0 (aZ rfl rfl (by omega) (by omega)) ?_;intro a hA;refine wpStill_nil ?_;refine yk hA rfl jS rfl (cV _ _ _ p _ _ _ bad _ hS (by (simp only[List.length_append];omega)) (by omega)) ?_;clear hA a;clear hS;rintro e w ⟨rfl,A42,c42,hS⟩;rw[p5 (by omega)]at hS;simp only[Bool.not_true,Bool.or_false]at hS;refine⟨_,rfl,?_⟩;refine uO 3 ?_;intro a hA;refine fj (l1:=[_,_,_,_,_]) (l2:=[_]) rfl (by kernel_rfl) (by kernel_rfl) ?_
   replace hS:=hS.drew;refine rT 1 hA ?_;clear hA a;refine eO 0 (a7 rfl) ?_;refine eO 0 (aa rfl dT) ?_;refine eO 0 (aa rfl jt) ?_;refine eO 0 (ld rfl lq) ?_;intro a hA;refine wpStill_nil ?_;refine yk hA rfl E8 rfl (ng _ _ _ p _ _ _ bad x.cy hS (by (simp only[List.length_append];omega)) (by rw[nU];(simp only[List.length_append];omega))) ?_;clear hA a;clear hS;rintro e w ⟨rfl,A48,c48,hS⟩;rw[GX (.inl rfl)]at hS;dsimp only at hS;refine⟨_,rfl,?_⟩;refine uO 3 ?_;intro a hA;refine fj (l1:=[_,_,_,_,_,_]) (l2:=[_]) rfl (by kernel_rfl) (by kernel_rfl) ?_;replace hS:=hS.drew;refine rT 1 hA ?_;clear hA a;refine eO 0 (a7 rfl) ?_;refine eO 0 (aa rfl dT) ?_;refine eO 0 (aa rfl ij) ?_;refine eO 0 (ld rfl aQ) ?_;refine eO 0 (aZ rfl rfl (by omega) (by omega)) ?_;intro a hA;refine wpStill_nil ?_
   refine yk hA rfl jS rfl (cV _ _ _ p _ _ _ bad _ hS (by (simp only[List.length_append];omega)) (by omega)) ?_;clear hA a;clear hS;rintro e w ⟨rfl,A55,c55,hS⟩;rw[p5 (by omega)]at hS;simp only[Bool.not_true,Bool.or_false]at hS;refine⟨_,rfl,?_⟩;refine uO 2 ?_;intro a hA;replace hA:=hA.kp [0,4,5,7,14,15,16,17,18,19,20,21,22,23,24,25,26,27,28,29,30,31,32,34,35,36,37,38,39,40,41,43,44,45,46,47,49,50,51,52,53,54] rfl;refine cF (fun w'=>Sat _ w' _) (by kernel_rfl) (by kernel_rfl) hS.drew ?_;refine Q1 0 hA (fun w hS=>(aa (hA.ev rfl) cm)) ?_;clear hA a;refine br 0 (fun w hS=>(aa rfl bw)) ?_;refine br 0 (fun w hS=>(ld rfl aQ)) ?_;refine br 0 (fun w hS=>(aa rfl cm)) ?_;refine br 0 (fun w hS=>(aa rfl bQ)) ?_;refine br 0 (fun w hS=>(ld rfl aQ)) ?_;refine br 2 (fun w hS=>(ah rfl rfl (by omega) (by omega))) ?_
   intro a hA;refine wpQuiet_nil ?_;clear hS;intro w hS;refine rE 3 hA ?_;clear hA a;refine u1 2 (ah rfl rfl (by omega) (by omega)) ?_;intro a hA;replace hA:=hA.kp [0,4,5,14,15,16] rfl;have hnx:dK (ahead none xs i) x.rep=1:=mF h24;rw[show x.rep=bB (ahead none xs (i+1)) from by rw[cC hx];rfl,show x.num+1=nV (ahead none xs (i+1)) from by rw[cC hx];rfl]at hA;refine⟨xs.length-(i+1),by omega,i+1,_,_,_,hA,(hS.p 2).drop,by omega,?_,by simp only[List.length_append];omega,rfl⟩;rw[dX hx,ho];unfold mM;rw[hnx];simp only[List.append_assoc]
  ·intro h24;have hnx0:dK (ahead none xs i) x.rep=nV (ahead none xs i):=lg (by omega);have hn2:=bf (n:=(x.num-nV (ahead none xs i)).toNat) (by omega);refine uO 6 ?_;intro a hA;refine fj (l1:=[_,_,_,_,_,_,_,_]) (l2:=[_]) rfl (by kernel_rfl) (by kernel_rfl) ?_;replace hS:=hS.drew;refine rT 1 hA ?_;clear hA a;refine eO 0 (a7 rfl) ?_;refine eO 0 (aa rfl dT) ?_;refine eO 0 (aa rfl cm) ?_;refine eO 0 (aa rfl bw) ?_;refine eO 1 (ld rfl aQ) ?_;refine eO 0 (aZ rfl rfl (by omega) (by omega)) ?_;intro a hA;refine wpStill_nil ?_;refine yk hA rfl jS rfl (cV _ _ _ p _ _ _ bad _ ((hS.p 2).p 2) (by omega) (by omega)) ?_;clear hA a;clear hS;rintro e w ⟨rfl,A33,c33,hS⟩;rw[p5 (by omega)]at hS;simp only[Bool.not_true,Bool.or_false]at hS;refine⟨_,rfl,?_⟩;refine uO 2 ?_;intro a hA
   replace hA:=hA.kp [0,4,5,7,14,15,16,17,18,19,20,21,22,23,24,25,26,27,28,29,30,31,32] rfl;refine rC 1 hA ?_;clear hA a;intro a hA;refine fj (l1:=[_,_,_,_,_,_,_,_]) (l2:=[_]) rfl (by kernel_rfl) (by kernel_rfl) ?_;replace hS:=hS.drew;refine rT 1 hA ?_;clear hA a;refine eO 0 (a7 rfl) ?_;refine eO 0 (aa rfl dT) ?_;refine eO 0 (aa rfl cm) ?_;refine eO 0 (aa rfl bQ) ?_;refine eO 1 (ld rfl aQ) ?_;refine eO 0 (aZ rfl rfl (by omega) (by omega)) ?_;intro a hA;refine wpStill_nil ?_;refine yk hA rfl jS rfl (cV _ _ _ p _ _ _ bad _ hS (by (simp only[List.length_append];omega)) (by omega)) ?_;clear hA a;clear hS;rintro e w ⟨rfl,A42,c42,hS⟩;rw[p5 (by omega)]at hS;simp only[Bool.not_true,Bool.or_false]at hS;refine⟨_,rfl,?_⟩;refine uO 3 ?_;intro a hA;refine fj (l1:=[_,_,_,_,_]) (l2:=[_]) rfl (by kernel_rfl) (by kernel_rfl) ?_
   replace hS:=hS.drew;refine rT 1 hA ?_;clear hA a;refine eO 0 (a7 rfl) ?_;refine eO 0 (aa rfl dT) ?_;refine eO 0 (aa rfl jt) ?_;refine eO 0 (ld rfl lq) ?_;intro a hA;refine wpStill_nil ?_;refine yk hA rfl E8 rfl (ng _ _ _ p _ _ _ bad x.cy hS (by (simp only[List.length_append];omega)) (by rw[nU];(simp only[List.length_append];omega))) ?_;clear hA a;clear hS;rintro e w ⟨rfl,A48,c48,hS⟩;rw[GX (.inl rfl)]at hS;dsimp only at hS;refine⟨_,rfl,?_⟩;refine uO 3 ?_;intro a hA;refine fj (l1:=[_,_,_,_,_,_]) (l2:=[_]) rfl (by kernel_rfl) (by kernel_rfl) ?_;replace hS:=hS.drew;refine rT 1 hA ?_;clear hA a;refine eO 0 (a7 rfl) ?_;refine eO 0 (aa rfl dT) ?_;refine eO 0 (aa rfl ij) ?_;refine eO 0 (ld rfl aQ) ?_;refine eO 0 (aZ rfl rfl (by omega) (by omega)) ?_;intro a hA;refine wpStill_nil ?_
   refine yk hA rfl jS rfl (cV _ _ _ p _ _ _ bad _ hS (by (simp only[List.length_append];omega)) (by omega)) ?_;clear hA a;clear hS;rintro e w ⟨rfl,A55,c55,hS⟩;rw[p5 (by omega)]at hS;simp only[Bool.not_true,Bool.or_false]at hS;refine⟨_,rfl,?_⟩;refine uO 2 ?_;intro a hA;replace hA:=hA.kp [0,4,5,7,14,15,16,17,18,19,20,21,22,23,24,25,26,27,28,29,30,31,32,34,35,36,37,38,39,40,41,43,44,45,46,47,49,50,51,52,53,54] rfl;refine cF (fun w'=>Sat _ w' _) (by kernel_rfl) (by kernel_rfl) hS.drew ?_;refine Q1 0 hA (fun w hS=>(aa (hA.ev rfl) cm)) ?_;clear hA a;refine br 0 (fun w hS=>(aa rfl bw)) ?_;refine br 0 (fun w hS=>(ld rfl aQ)) ?_;refine br 0 (fun w hS=>(aa rfl cm)) ?_;refine br 0 (fun w hS=>(aa rfl bQ)) ?_;refine br 0 (fun w hS=>(ld rfl aQ)) ?_;refine br 2 (fun w hS=>(ah rfl rfl (by omega) (by omega))) ?_
   intro a hA;refine wpQuiet_nil ?_;clear hS;intro w hS;refine rE 3 hA ?_;clear hA a;refine u1 2 (ah rfl rfl (by omega) (by omega)) ?_;intro a hA;replace hA:=hA.kp [0,4,5,14,15,16] rfl;have hnx:dK (ahead none xs i) x.rep=nV (ahead none xs i):=lg (by omega);rw[show x.rep=bB (ahead none xs (i+1)) from by rw[cC hx];rfl,show x.num+1=nV (ahead none xs (i+1)) from by rw[cC hx];rfl]at hA;refine⟨xs.length-(i+1),by omega,i+1,_,_,_,hA,(hS.p 2).drop,by omega,?_,by simp only[List.length_append];omega,rfl⟩;rw[dX hx,ho];unfold mM;rw[hnx];simp only[List.append_assoc]
 ·intro h17;refine uO 8 ?_;intro a hA;refine fM (e:=.ret) ?_;refine jg hA rfl  ?_;have hie:i=xs.length:=by omega
  rw[hie,List.take_length]at ho;rw[show bs++cK xs=out from by rw[ho];rfl];exact⟨rfl,Ao,co,hS⟩
theorem zw (W w:World)(L:List As)(p:Nat)(A:Option Addr)(c:Nat)(bs:List UInt8)(bad:Bool)(B:Option Addr)(d:Nat)(rs:List RL)(hS:Sat W w (pE p A c (bs) bad::row 5 1 (.slice A (bs).length c) (bs).length ((bs).map an)::L))(hR:fO W B d rs)(hE:∀r∈rs,r.p.ok W)(hC:∀r∈rs,r.p.d.ab.length≤1000000000)(hk:∀r∈rs.map RL.d,fx r=true)(hrl:rs.length≤1000000000000)(hl:bs.length+(cj (rs.map RL.d)).length≤1000000000000):Calls Tryz.prog 379 #[.pointer (some ⟨p,0,none⟩),.slice B (rs).length d] w fun e w'=>e=.returned (.tuple #[])∧∃A' c',Sat W w' (pE p A' c' (bs++cj (rs.map RL.d)) bad::row 5 1 (.slice A' (bs++cj (rs.map RL.d)).length c') (bs++cj (rs.map RL.d)).length ((bs++cj (rs.map RL.d)).map an)::L):=by
 refine enter Tryz.func379 rfl rfl rfl (.cons (i:=0) rfl (.cons (i:=1) rfl .nil)) ?_;refine uC 3 ?_;refine u1 0 (a7 rfl) ?_;refine u1 1 (aa rfl dT) ?_;refine u1 0 (ar rfl db) ?_;refine uF jS rfl (cV _ _ _ p _ _ _ bad _ hS (by omega) (by omega)) ?_;clear hS;rintro e w ⟨rfl,A11,c11,hS⟩;rw[p5 (by omega)]at hS;simp only[Bool.not_true,Bool.or_false]at hS;refine⟨_,rfl,?_⟩;refine uO 5 ?_;refine u1 4 (ar rfl db) ?_;intro a hA
 refine wp_loop_ghost (fun (mm:Nat) a w=>∃(i:Nat) (out:List UInt8) (Ao:Option Addr) (co:Nat),Ag a 29 [(0,.pointer (some ⟨p,0,none⟩)),(12,.slice B (rs).length d),(13,.int .i64 ((rs.length:Nat):Int)),(14,.int .i64 ((i:Nat):Int))]∧Sat W w (pE p Ao co (out) bad::row 5 1 (.slice Ao (out).length co) (out).length ((out).map an)::L)∧(i≤rs.length)∧(out=bs++(aI rs.length++seqB jd none ((rs.map RL.d).take i)))∧mm=rs.length-i) rs.length ?_ ?_
 ·replace hA:=hA.kp [0,12,13,14] rfl;exact⟨0,_,_,_,hA,hS,(by omega),(by rw[Int.toNat_natCast];simp[seqB]),by omega⟩
 intro m a w hI;clear hS hA;obtain⟨i,out,Ao,co,hA,hS,hi,ho,rfl⟩:=hI;refine rC 2 hA ?_;clear hA a;refine aR 0 0 (aw rfl rfl) ?_ ?_
 ·intro h15;refine uO 10 ?_;obtain⟨B_p,rfl⟩:∃q,B=some q:=(hR.sat hS).av (by omega);obtain⟨x,hx⟩:∃zz_,rs[i]?=some zz_:=⟨_,List.getElem?_eq_getElem (by omega)⟩;have hw:=oH (hk x.d (List.mem_of_getElem? (bR hx)));obtain⟨hw0,hw1⟩:=hw;have hw2:x.cy.data.toList.length≤24:=hw0;have hxo:=hE x (List.mem_of_getElem? hx);have hxc:=hC x (List.mem_of_getElem? hx);have hsm:=xU (g:=jd) (rs.map RL.d) none (i+1);intro a hA;rw[dX (bR hx),List.length_append]at hsm;have hrg:(jd (ahead none (rs.map RL.d) i) x.d).length=(aI x.cy.data.toList.length).length+(x.cy.data.toList.length+(cL x.p.d).length):=by unfold jd;simp only[List.length_append];rfl
  have hol:out.length=bs.length+((aI rs.length).length+(seqB jd none ((rs.map RL.d).take i)).length):=by rw[ho];simp only[List.length_append]
  have hlr:(cj (rs.map RL.d)).length=(aI rs.length).length+(seqB jd none (rs.map RL.d)).length:=by unfold cj;rw[List.length_append,List.length_map]
  refine o1 0 hA (aj (hA.ev rfl) (hA.ev rfl) db bT (by omega) (by omega)) ?_;clear hA a;refine u1 0 (ad (cs:=iX x) rfl gI bT (fun j u e=>bJ (hR.sat hS) (cR hx j u e))) ?_;refine uN mH hS ?_;clear hS;intro b5 w hS;refine uW (vs:=[_,_,_]) (cs':=[_,_,_]) rfl rfl bT hS ?_;clear hS;intro w hS;refine uO 3 ?_;intro a hA;refine fj (l1:=[_,_,_,_,_]) (l2:=[_]) rfl (by kernel_rfl) (by kernel_rfl) ?_;replace hS:=hS.drew;refine rT 1 hA ?_;clear hA a;refine eO 0 (a7 rfl) ?_;refine eO 0 (aa rfl dT) ?_;refine eO 0 (aa rfl bY) ?_;refine eO 0 (ld rfl lq) ?_;intro a hA;refine wpStill_nil ?_;refine yk hA rfl E8 rfl (ng _ _ _ p _ _ _ bad x.cy ((hS.p 2).p 2) (by omega) (by rw[nU];omega)) ?_;clear hA a;clear hS;rintro e w ⟨rfl,A23,c23,hS⟩;rw[GX (.inl rfl)]at hS;dsimp only at hS;refine⟨_,rfl,?_⟩
  refine uO 2 ?_;intro a hA;replace hA:=hA.kp [0,5,12,13,14,15,16,17,18,19,20,21,22] rfl;refine rC 2 hA ?_;clear hA a;refine u1 0 (aa rfl bM) ?_;refine u1 0 (ad (cs:=[_,_]) rfl a6 aC (by exact (hS.p 2).ag (xs:=[_,_]) rfl)) ?_;refine uF Gh rfl (sl _ _ _ p _ _ _ bad x.p hS hxo hw1.toCa hxc (by simp only[List.length_append];omega)) ?_;clear hS;rintro e w ⟨rfl,A27,c27,hS⟩;refine⟨_,rfl,?_⟩;refine uO 4 ?_;refine u1 2 (ah rfl rfl (by omega) (by omega)) ?_;intro a hA;replace hA:=hA.kp [0,12,13,14] rfl;refine⟨rs.length-(i+1),by omega,i+1,_,_,_,hA,(hS.p 2).drop,by omega,?_,rfl⟩;rw[dX (bR hx),ho];unfold jd;simp only[List.append_assoc]
  rfl
 ·intro h15;refine uO 8 ?_;intro a hA;refine fM (e:=.ret) ?_;refine jg hA rfl  ?_;have hie:i=rs.length:=by omega
  rw[hie,List.take_of_length_le (by simp)]at ho;rw[show bs++cj (rs.map RL.d)=out from by rw[ho];unfold cj;rw[List.length_map]];exact⟨rfl,Ao,co,hS⟩
end Go.Proofs.YtkjabaihpkbfhaaGreat.Wk
namespace Go.Proofs.YtkjabaihpkbfhaaGreat.Wk
open Go Go.RowKit Go.Proofs.YtkjabaihpkbfhaaGreat Go.Proofs.YtkjabaihpkbfhaaGreat.K
theorem yy {α:Type}{g:Option α→α→List UInt8}{F:Option α→α→Prop}{k:Nat}(h:∀p x,F p x→(g p x).length≤k):∀(l:List α) (p:Option α),jD F p l→(seqB g p l).length≤l.length * k
 | [],_,_=>by simp[seqB]
 | x :: l, p, hc => by
   have h1:=h p x hc.1;have h2:=yy h l (some x) hc.2;rw[seqB,List.length_append,List.length_cons,Nat.add_mul];omega
theorem nine {n:Nat}(h:n≤9223372036854775807):(aI n).length≤9:=bf h
theorem mr {p:aL}(h:Ca p)(hc:p.ab.length≤1000000000):(cL p).length≤200+27 * p.ab.length:=by
 unfold cL;have hv:=h.len;have h1:=nine (n:=p.vec.length) (by omega);have h2:=nine (n:=p.ab.length) (by omega)
 have h3:(seqB (ly 1000000000).g none p.vec).length≤p.vec.length * 9:=by
  refine yy (F:=(ly 1000000000).F) (fun _ x hx=>?_) _ _ (oe.2 fun v hv2=>?_)
  ·
   exact nine (by have:=hx.1;have:=hx.2.2;omega)
  ·
   have:=h.vec v hv2;omega
 have h4:(seqB (jB p.vec) none p.ab).length≤p.ab.length * 27:=by
  have hcl:jD (fun a b=>gV p.vec a b=true) none p.ab:=qa.1 h.ab
  have hb:∀(l:List aO) (q:Option aO),jD (fun a b=>gV p.vec a b=true) q l→(∀y,q=some y→0≤y.rep∧0≤y.hi)→(seqB (jB p.vec) q l).length≤l.length * 27:=by
   intro l
   induction l with
   | nil=>intro q _ _;simp[seqB]
   | cons x l ih =>
     intro q hq hy;obtain⟨a,b,c,d,e,f⟩:=B9 hq.1;have hp:0≤cJ q:=by unfold cJ;cases q with | none=>simp | some y=>exact (hy y rfl).1
     have hl:0≤bC p.vec q x.rep:=by
      unfold bC;have:=dH h.vec x.rep.toNat;cases q with
      | none=>simp only;omega
      | some y=>have:=(hy y rfl).2;simp only;split<;>omega
     have h5:=ih (some x) hq.2 (fun y hy2=>by cases hy2;exact⟨a,by omega⟩);have n1:=nine (n:=(x.rep-cJ q).toNat) (by omega);have n2:=nine (n:=(x.lo-bC p.vec q x.rep).toNat) (by omega);have n3:=nine (n:=(x.hi-x.lo).toNat) (by omega);have hg:(jB p.vec q x).length≤27:=by unfold jB;simp only[List.length_append];omega
     rw[seqB,List.length_append,List.length_cons,Nat.add_mul];omega
  exact hb _ none hcl (fun y hy=>by cases hy)
 simp only[List.length_append];omega
theorem mX {xs:List aV}(h:jD oB none xs)(hl:xs.length≤1000000000):(cK xs).length≤9+60 * xs.length:=by
 unfold cK;have h1:=nine (n:=xs.length) (by omega)
 have h2:(seqB mM none xs).length≤xs.length * 60:=by
  have hb:∀(l:List aV) (q:Option aV),jD oB q l→(∀y,q=some y→0≤y.rep∧0≤y.num)→(seqB mM q l).length≤l.length * 60:=by
   intro l
   induction l with
   | nil=>intro q _ _;simp[seqB]
   | cons x l ih =>
     intro q hq hy;obtain⟨a,b,c,d,e,f,g,i,j⟩:=hq.1;have hp:0≤bB q:=by unfold bB;cases q with | none=>simp | some y=>exact (hy y rfl).1
     have hn:0≤dK q x.rep:=by
      unfold dK;cases q with
      | none=>simp
      | some y=>have:=(hy y rfl).2;simp only;split<;>omega
     have h5:=ih (some x) hq.2 (fun y hy2=>by cases hy2;exact⟨a,by omega⟩);have n1:=nine (n:=(x.rep-bB q).toNat) (by omega);have n2:=nine (n:=(x.num-dK q x.rep).toNat) (by omega);have n3:=nine (n:=x.cy.data.toList.length) (by omega);have n4:=nine (n:=(x.p4-1).toNat) (by omega);have hg:(mM q x).length≤60:=by unfold mM;simp only[List.length_append];omega
     rw[seqB,List.length_append,List.length_cons,Nat.add_mul];omega
  exact hb _ none h (fun y hy=>by cases hy)
 rw[List.length_append];omega
theorem lb {rs:List bW}(h:∀r∈rs,fx r=true)(hs:cN (rs.map bW.bF)≤1000000000):(cj rs).length≤9+300 * cN (rs.map bW.bF):=by
 have hl:=ql (rs.map bW.bF);rw[List.length_map]at hl;unfold cj;have h1:=nine (n:=rs.length) (by omega)
 have h2:∀(l:List bW) (q:Option bW),(∀r∈l,fx r=true∧r.bF.ab.length≤1000000000)→(seqB jd q l).length≤300 * cN (l.map bW.bF):=by
  intro l
  induction l with
  | nil=>intro q _;simp[seqB]
  | cons x l ih =>
    intro q hq;obtain⟨hw0,hw1⟩:=oH (hq x (by simp)).1;have h3:=mr hw1.toCa (hq x (by simp)).2;have h4:=ih (some x) (fun r hr=>hq r (by simp[hr]));have h5:=nine (n:=x.cy.data.toList.length) (by omega);have h6:cN ((x::l).map bW.bF)=x.bF.ab.length+1+cN (l.map bW.bF):=by unfold cN;simp
    have hg:(jd q x).length≤33+(cL x.bF).length:=by unfold jd;simp only[List.length_append];omega
    rw[seqB,List.length_append,h6];omega
 have h3:=h2 rs none (fun r hr=>⟨h r hr,by have:=u7 (List.mem_map.2 ⟨r,hr,rfl⟩:r.bF∈rs.map bW.bF);omega⟩);rw[List.length_append];omega
theorem gU (rs:List RL):(rs.map RL.d).map bW.bF=rs.map fun r=>r.p.d:=by rw[List.map_map];rfl
end Go.Proofs.YtkjabaihpkbfhaaGreat.Wk
namespace Go.Proofs.YtkjabaihpkbfhaaGreat.Wk
open Go Go.RowKit Go.Proofs.YtkjabaihpkbfhaaGreat Go.Proofs.YtkjabaihpkbfhaaGreat.K Go.Proofs.YtkjabaihpkbfhaaGreat.T
theorem vB (W:World)(q:PL)(hp:q.ok W)(hv:q.d.vec.length≤1000000000000)(hcl:q.d.ab.length≤1000000000)(hN:bL q.d=true):Calls Tryz.prog 362 #[.agg #[.slice q.va q.d.vec.length q.vc,.slice q.ca q.d.ab.length q.cc]] W fun e w'=>∃A' c',e=.returned (.tuple #[.slice A' (cL q.d).length c',.int .i64 0])∧Sat W w' [row 5 1 (.slice A' (cL q.d).length c') (cL q.d).length ((cL q.d).map an)]:=by
 refine enter Tryz.func362 rfl rfl rfl (.cons (i:=0) rfl .nil) ?_;have hS:=Sat.start W;have hk:=(gq.1 hN).toCa;have hbm:=mr hk hcl;refine uC 2 ?_;refine uB rfl hS ?_;clear hS;intro b1 w hS;refine uO 7 ?_;refine u1 0 (ad (cs:=[_,_]) rfl a6 aC (by exact hS.ag (xs:=[_,_]) rfl)) ?_;refine uF uU rfl (fE _ q (hp.sat hS) (by omega) hv) ?_;rintro e w ⟨rfl,hT⟩;rw[hN];replace hS:Sat _ _ _:=hS.ai hT;clear hT;refine⟨_,rfl,?_⟩;refine u1 7 (aM rfl) ?_;refine uF Cv rfl (eP _) ?_;rintro e w ⟨p0,rfl,hT⟩;replace hS:=hS.aB hT;clear hT;change Sat W w (a8 p0 (.cells #[.slice none 0 0,.bool false] 263)::_) at hS;refine⟨_,rfl,?_⟩;refine u1 0 (a7 rfl) ?_;refine u1 0 (ad (cs:=[_,_]) rfl Ey DQ (by exact hS.ag (xs:=[_,_]) rfl)) ?_;intro a hA;refine o1 0 hA (aP hA rfl xr) ?_;clear hA a
 refine uN DP hS ?_;clear hS;intro b4 w hS;refine uW (vs:=[_,_]) (cs':=[_,_]) rfl rfl DE hS ?_;clear hS;intro w hS;refine uO 4 ?_;refine u1 0 (ad (cs:=[_,_]) rfl a6 aC (by exact (hS.p 2).ag (xs:=[_,_]) rfl)) ?_;refine uF Gh rfl (sl _ _ _ b4 none 0 [] false q ((hS.aY 5 1).p 1) hp hk hcl (by simp)) ?_;clear hS;rintro e w ⟨rfl,A13,c13,hS⟩;refine⟨_,rfl,?_⟩;refine uO 4 ?_;refine u1 0 (aa rfl dT) ?_;refine uF C4 rfl (na _ _ _ b4 A13 c13 _ false hS (hS.p 1).rd (by simp only[List.nil_append];omega)) ?_;rintro e w ⟨A15,c15,rfl,hT⟩;replace hS:=hS.aB hT;clear hT;simp only[Bool.false_eq_true,if_false,List.nil_append]at hS ⊢;refine⟨_,rfl,?_⟩;refine u1 0 (au rfl rfl) ?_;refine u1 5 (au rfl rfl) ?_;refine fy ?_;exact⟨_,_,rfl,fz hS⟩
theorem rp (W:World)(B:Option Addr)(d:Nat)(xs:List aV)(hX:fI W B d xs)(hxl:xs.length≤1000000000)(hN:cd xs=true):Calls Tryz.prog 361 #[.slice B (xs).length d] W fun e w'=>∃A' c',e=.returned (.tuple #[.slice A' (cK xs).length c',.int .i64 0])∧Sat W w' [row 5 1 (.slice A' (cK xs).length c') (cK xs).length ((cK xs).map an)]:=by
 refine enter Tryz.func361 rfl rfl rfl (.cons (i:=0) rfl .nil) ?_;have hS:=Sat.start W;have hk:=kI hN;have hbm:=mX hk hxl;refine uC 10 ?_;refine uF vT rfl (gE _ B d xs (hX.sat hS) (by omega)) ?_;rintro e w ⟨rfl,hT⟩;rw[if_pos hN];replace hS:Sat _ _ _:=hS.ai hT;clear hT;refine⟨_,rfl,?_⟩;refine u1 7 (dP (aK rfl rfl) (by omega)) ?_;refine uF Cv rfl (eP _) ?_;rintro e w ⟨p0,rfl,hT⟩;replace hS:=hS.aB hT;clear hT;change Sat W w (a8 p0 (.cells #[.slice none 0 0,.bool false] 263)::_) at hS;refine⟨_,rfl,?_⟩;refine u1 0 (a7 rfl) ?_;refine u1 0 (ad (cs:=[_,_]) rfl Ey DQ (by exact hS.ag (xs:=[_,_]) rfl)) ?_;intro a hA;refine o1 0 hA (aP hA rfl xr) ?_;clear hA a;refine uN DP hS ?_;clear hS;intro b4 w hS;refine uW (vs:=[_,_]) (cs':=[_,_]) rfl rfl DE hS ?_;clear hS;intro w hS;refine uO 5 ?_
 refine uF Il rfl (yv _ _ _ b4 none 0 [] false B d xs ((hS.aY 5 1).p 1) hX hk hxl (by simp)) ?_;clear hS;rintro e w ⟨rfl,A13,c13,hS⟩;refine⟨_,rfl,?_⟩;refine uO 4 ?_;refine u1 0 (aa rfl dT) ?_;refine uF C4 rfl (na _ _ _ b4 A13 c13 _ false hS (hS.p 1).rd (by simp only[List.nil_append];omega)) ?_;rintro e w ⟨A15,c15,rfl,hT⟩;replace hS:=hS.aB hT;clear hT;simp only[Bool.false_eq_true,if_false,List.nil_append]at hS ⊢;refine⟨_,rfl,?_⟩;refine u1 0 (au rfl rfl) ?_;refine u1 5 (au rfl rfl) ?_;refine fy ?_;exact⟨_,_,rfl,fz hS⟩
theorem rW (W:World)(B:Option Addr)(d:Nat)(rs:List RL)(hR:fO W B d rs)(hE:∀r∈rs,r.p.ok W)(hB:dx 1000000000 rs)(hs:cN (rs.map fun r=>r.p.d)≤1000000000)(hN:cz (rs.map RL.d)=true):Calls Tryz.prog 363 #[.slice B (rs).length d] W fun e w'=>∃A' c',e=.returned (.tuple #[.slice A' (cj (rs.map RL.d)).length c',.int .i64 0])∧Sat W w' [row 5 1 (.slice A' (cj (rs.map RL.d)).length c') (cj (rs.map RL.d)).length ((cj (rs.map RL.d)).map an)]:=by
 refine enter Tryz.func363 rfl rfl rfl (.cons (i:=0) rfl .nil) ?_;have hS:=Sat.start W;have hrl:=jW hs;have hk:=gj hN;have hbm:=lb hk (by rw[gU];exact hs);intro a hA;rw[gU]at hbm;refine rC 10 hA ?_;clear hA a;refine uF tA rfl (fC _ B d rs (hR.sat hS) (fun r h=>(hE r h).sat hS) (hB.mono (by decide)) (by omega)) ?_;rintro e w ⟨rfl,hT⟩;rw[if_pos hN];replace hS:Sat _ _ _:=hS.ai hT;clear hT;refine⟨_,rfl,?_⟩;refine u1 7 (dP (aK rfl rfl) (by omega)) ?_;refine uF Cv rfl (eP _) ?_;rintro e w ⟨p0,rfl,hT⟩;replace hS:=hS.aB hT;clear hT;change Sat W w (a8 p0 (.cells #[.slice none 0 0,.bool false] 263)::_) at hS;refine⟨_,rfl,?_⟩;refine u1 0 (a7 rfl) ?_;refine u1 0 (ad (cs:=[_,_]) rfl Ey DQ (by exact hS.ag (xs:=[_,_]) rfl)) ?_;intro a hA;refine o1 0 hA (aP hA rfl xr) ?_;clear hA a
 refine uN DP hS ?_;clear hS;intro b4 w hS;refine uW (vs:=[_,_]) (cs':=[_,_]) rfl rfl DE hS ?_;clear hS;intro w hS;refine uO 5 ?_;refine uF Jg rfl (zw _ _ _ b4 none 0 [] false B d rs ((hS.aY 5 1).p 1) hR hE (fun r hr=>(hB r hr).2) hk (by omega) (by simp only[List.length_nil];omega)) ?_;clear hS;rintro e w ⟨rfl,A13,c13,hS⟩;refine⟨_,rfl,?_⟩;refine uO 4 ?_;refine u1 0 (aa rfl dT) ?_;refine uF C4 rfl (na _ _ _ b4 A13 c13 _ false hS (hS.p 1).rd (by simp only[List.nil_append];omega)) ?_;rintro e w ⟨A15,c15,rfl,hT⟩;replace hS:=hS.aB hT;clear hT;simp only[Bool.false_eq_true,if_false,List.nil_append]at hS ⊢;refine⟨_,rfl,?_⟩;refine u1 0 (au rfl rfl) ?_;refine u1 5 (au rfl rfl) ?_;refine fy ?_;exact⟨_,_,rfl,fz hS⟩
end Go.Proofs.YtkjabaihpkbfhaaGreat.Wk
namespace Go.Proofs.YtkjabaihpkbfhaaGreat.Wk
open Go Go.RowKit Go.Proofs.YtkjabaihpkbfhaaGreat Go.Proofs.YtkjabaihpkbfhaaGreat.K
def fr (b:List UInt8):List UInt8:=aI b.length++b
def ct (k:Nat)(s:jP):List UInt8:=aI k++(fr (cK s.lQ)++(fr (cL s.bF)++fr (cj s.nG)))
def dW (f:jP→Bool)(k:Nat)(s:jP):List UInt8:=if f s=true then ct k s else []
def pd (f:jP→Bool)(s:jP):Int:=if f s=true then 0 else 1
theorem fJ {f:jP→Bool}{k:Nat}{s:jP}(h:f s=false):dW f k s=[]:=if_neg (by rw[h];decide)
theorem jO {f:jP→Bool}{s:jP}(h:f s=false):pd f s=1:=if_neg (by rw[h];decide)
theorem eR {f:jP→Bool}{k:Nat}{s:jP}(h:f s=true):dW f k s=ct k s:=if_pos h
theorem iE {f:jP→Bool}{s:jP}(h:f s=true):pd f s=0:=if_pos h
theorem bc {s:jP}(h:aH s=true):cd s.lQ=true∧bL s.bF=true∧cz s.nG=true:=by
 unfold aH at h;simpa only [Bool.and_eq_true]using h
theorem eC {s:jP}(h:bH s=true):aH s=true:=by
 unfold bH at h;rw[Bool.and_eq_true]at h;exact h.1
end Go.Proofs.YtkjabaihpkbfhaaGreat.Wk
namespace Go.Proofs.YtkjabaihpkbfhaaGreat.Wk
open Go Go.RowKit Go.Proofs.YtkjabaihpkbfhaaGreat Go.Proofs.YtkjabaihpkbfhaaGreat.K Go.Proofs.YtkjabaihpkbfhaaGreat.T
theorem vh (W:World)(k:Nat)(ea:Option Addr)(ec:Nat)(es:List aV)(p:PL)(ra:Option Addr)(rc:Nat)(rs:List RL)(hk:k≤100)(he:fI W ea ec es)(hpp:p.ok W)(hrt:fO W ra rc rs)(hre:∀r∈rs,r.p.ok W)(hel:es.length≤16777216)(hpv:p.d.vec.length≤1000000000000)(hpc:p.d.ab.length≤16777216)(hrv:∀r∈rs,r.p.d.vec.length≤1000000000000)(hrs:cN (rs.map fun r=>r.p.d)≤16777216)(hE1:cd es=true)(hE2:bL p.d=true)(hE3:cz (rs.map RL.d)=true):Calls Tryz.prog 349 #[.int .i64 (k:Int),.slice ea (es).length ec,.agg #[.slice p.va p.d.vec.length p.vc,.slice p.ca p.d.ab.length p.cc],.slice ra (rs).length rc] W fun e w'=>∃A' c',e=.returned (.tuple #[.slice A' (ct k ⟨es,p.d,rs.map RL.d⟩).length c',.int .i64 0])∧Sat W w' [row 5 1 (.slice A' (ct k ⟨es,p.d,rs.map RL.d⟩).length c') (ct k ⟨es,p.d,rs.map RL.d⟩).length ((ct k ⟨es,p.d,rs.map RL.d⟩).map an)]:=by
 refine enter Tryz.func349 rfl rfl rfl (.cons (i:=0) rfl (.cons (i:=1) rfl (.cons (i:=2) rfl (.cons (i:=3) rfl .nil)))) ?_;have hS:=Sat.start W;have hk1:=mX (kI hE1) (by omega);have hk2:=mr (gq.1 hE2).toCa (by omega);have hk3:=lb (gj hE3) (by rw[gU];omega);intro a hA;rw[gU]at hk3;have hk4:=nine (n:=(cK es).length) (by omega);have hk5:=nine (n:=(cL p.d).length) (by omega);have hk6:=nine (n:=(cj (rs.map RL.d)).length) (by omega);have hk7:=nine (n:=k) (by omega);refine rC 2 hA ?_;clear hA a;refine uB rfl hS ?_;clear hS;intro b6 w hS;refine uO 7 ?_;refine uF KP rfl (rp _ ea ec es (he.sat hS) (by omega) hE1) ?_;rintro e w ⟨A19,c19,rfl,hT⟩;replace hS:=hS.aB hT;clear hT;refine⟨_,rfl,?_⟩
 refine uO 1 ?_;refine u1 0 (au rfl rfl) ?_;refine u1 8 (au rfl rfl) ?_;refine u1 7 (dP (aK rfl rfl) (by omega)) ?_;refine u1 0 (ad (cs:=[_,_]) rfl a6 aC (by exact (hS.p 1).ag (xs:=[_,_]) rfl)) ?_;refine uF ID rfl (vB _ p (hpp.sat hS) hpv (by omega) hE2) ?_;rintro e w ⟨A27,c27,rfl,hT⟩;replace hS:=hS.aB hT;clear hT;refine⟨_,rfl,?_⟩;refine uO 1 ?_;refine u1 0 (au rfl rfl) ?_;refine u1 8 (au rfl rfl) ?_;refine u1 2 (dP (aK rfl rfl) (by omega)) ?_;intro a hA;replace hA:=hA.kp [0,3,8,9,10,11,12,31] rfl;refine rC 6 hA ?_;clear hA a;refine uF Jj rfl (rW _ ra rc rs (hrt.sat hS) (fun r h=>(hre r h).sat hS) ((fv hrv hrs).mono (by decide)) (by omega) hE3) ?_;rintro e w ⟨A35,c35,rfl,hT⟩;replace hS:=hS.aB hT;clear hT;refine⟨_,rfl,?_⟩
 refine uO 1 ?_;refine u1 0 (au rfl rfl) ?_;refine u1 8 (au rfl rfl) ?_;refine u1 7 (dP (aK rfl rfl) (by omega)) ?_;refine uF Cv rfl (eP _) ?_;rintro e w ⟨p0,rfl,hT⟩;replace hS:=hS.aB hT;clear hT;refine⟨_,rfl,?_⟩;refine uO 7 ?_;refine uF jS rfl (fw _ _ _ p0 none 0 [] false k ((hS.aY 5 1).p 1) (by simp) (by omega)) ?_;clear hS;rintro e w ⟨rfl,A44,c44,hS⟩;rw[p5 (by omega),Int.toNat_natCast]at hS;simp only[Bool.not_true,Bool.or_false]at hS;refine⟨_,rfl,?_⟩;refine uO 8 ?_;intro a hA;refine nC hA rfl rfl Eu Lv rfl rfl rfl (by simp[Value.oneCell']) hS ?_;clear hA a hS;intro A48 w hS;intro a hA;replace hS:=((hS.p 2).p 2);refine o1 3 hA (ar (hA.ev rfl) Eu) ?_;clear hA a;intro a hA;replace hA:=hA.kp [8,9,14,48,49,50] rfl;refine rC 1 hA ?_;clear hA a;intro a hA;refine wp_loop_rounds 4 ?_;refine aU ?_
 refine rC 2 hA ?_;clear hA a;refine aR 0 0 (aw rfl rfl) ?_ ?_
 ·intro h51;refine uO 10 ?_;obtain⟨A48_p,rfl⟩:∃q,A48=some q:=(hS.p 2).rd.av (by omega);refine u1 0 (aj rfl rfl Eu jz (by omega) (by omega)) ?_;refine u1 6 (aq rfl fZ (gb (hS.p 2).rd rfl)) ?_;refine uF EF rfl (jx _ _ _ p0 _ _ _ false (str (cK es)) A19 c19 hS (by simp only[List.length_append,List.length_nil];omega) (fun w' M N s=>(s.p 5).rd) (by show _+(cK es).length≤_;simp only[List.length_append,List.length_nil];omega)) ?_;clear hS;rintro e w ⟨rfl,Af1,cf1,hS⟩;rw[GX (.inr rfl)]at hS;dsimp only[nW]at hS;refine⟨_,rfl,?_⟩;refine uO 4 ?_;refine u1 2 (aJ (ah rfl rfl (by omega) (by omega)) (show _=Value.int .i64 1 from rfl)) ?_;intro a hA;refine aU ?_;refine rC 2 hA ?_;clear hA a;refine aR 0 0 (aw rfl rfl) ?_ ?_
  ·intro h51;refine uO 10 ?_;refine u1 0 (aj rfl rfl Eu jz (by omega) (by omega)) ?_;refine u1 6 (aq rfl fZ (gb (hS.p 2).rd rfl)) ?_;refine uF EF rfl (jx _ _ _ p0 _ _ _ false (str (cL p.d)) A27 c27 hS (by simp only[List.length_append,List.length_nil];omega) (fun w' M N s=>(s.p 4).rd) (by show _+(cL p.d).length≤_;simp only[List.length_append,List.length_nil];omega)) ?_;clear hS;rintro e w ⟨rfl,Af2,cf2,hS⟩;rw[GX (.inr rfl)]at hS;dsimp only[nW]at hS;refine⟨_,rfl,?_⟩;refine uO 3 ?_;intro a hA;replace hA:=hA.kp [8,9,14,16,48,49,50,51,52,53,54,55,57] rfl;refine rC 1 hA ?_;clear hA a;refine u1 2 (aJ (ah rfl rfl (by omega) (by omega)) (show _=Value.int .i64 2 from rfl)) ?_;intro a hA;refine aU ?_;refine rC 2 hA ?_;clear hA a;refine aR 0 0 (aw rfl rfl) ?_ ?_
   ·intro h51;refine uO 10 ?_;refine u1 0 (aj rfl rfl Eu jz (by omega) (by omega)) ?_;refine u1 6 (aq rfl fZ (gb (hS.p 2).rd rfl)) ?_;refine uF EF rfl (jx _ _ _ p0 _ _ _ false (str (cj (rs.map RL.d))) A35 c35 hS (by simp only[List.length_append,List.length_nil];omega) (fun w' M N s=>(s.p 3).rd) (by show _+(cj (rs.map RL.d)).length≤_;simp only[List.length_append,List.length_nil];omega)) ?_;clear hS;rintro e w ⟨rfl,Af3,cf3,hS⟩;rw[GX (.inr rfl)]at hS;dsimp only[nW]at hS;refine⟨_,rfl,?_⟩;refine uO 4 ?_;refine u1 2 (aJ (ah rfl rfl (by omega) (by omega)) (show _=Value.int .i64 3 from rfl)) ?_;intro a hA;refine aU ?_;refine rC 2 hA ?_;clear hA a;refine aR 0 0 (aw rfl rfl) ?_ ?_
    ·intro h51;intro a hA
     try (contradiction)
     all_goals
      fail "unrolled enough"
    ·intro h51;refine uO 9 ?_;intro a hA;replace hA:=hA.kp [8,9,14] rfl;refine rC 3 hA ?_;clear hA a;refine uF C4 rfl (pP _ _ _ p0 Af3 cf3 _ false hS (hS.p 1).rd (by simp only[List.length_append,List.length_nil];omega)) ?_;rintro e w ⟨A59,c59,rfl,hT⟩;replace hS:=hS.aB hT;clear hT;simp only[Bool.false_eq_true,if_false,List.nil_append]at hS ⊢;refine⟨_,rfl,?_⟩;refine u1 0 (au rfl rfl) ?_;refine u1 5 (au rfl rfl) ?_;refine fy ?_;have ho:aI k++(aI (cK es).length++cK es)++(aI (cL p.d).length++cL p.d)++(aI (cj (rs.map RL.d)).length++cj (rs.map RL.d))=ct k ⟨es,p.d,rs.map RL.d⟩:=by unfold ct fr;simp only[List.append_assoc]
     rw[ho]at hS ⊢;exact⟨_,_,rfl,fz hS⟩
   ·intro h51;intro a hA;contradiction
  ·intro h51;intro a hA;contradiction
 ·intro h51;intro a hA;contradiction
theorem uS (W:World)(s:SL)(hp:s.ok W)(hs:jY s):Calls Tryz.prog 428 #[.agg #[.slice s.e.a s.e.es.length s.e.c,.slice s.p.va s.p.d.vec.length s.p.vc,.slice s.p.ca s.p.d.ab.length s.p.cc,.slice s.r.a s.r.rs.length s.r.c]] W fun e w'=>∃A' c',e=.returned (.tuple #[.slice A' (dW aH 1 s.d).length c',.int .i64 (pd aH s.d)])∧Sat W w' [row 5 1 (.slice A' (dW aH 1 s.d).length c') (dW aH 1 s.d).length ((dW aH 1 s.d).map an)]:=by
 refine enter Tryz.func428 rfl rfl rfl (.cons (i:=0) rfl .nil) ?_;have hS:=Sat.start W;obtain⟨⟨ea,ec,es⟩,p,⟨ra,rc,rs⟩⟩:=s;have he:fI W ea ec es:=hp.e;have hpp:p.ok W:=hp.p;have hrt:fO W ra rc rs:=hp.r.top;have hre:∀r∈rs,r.p.ok W:=hp.r.each;have hel:es.length≤16777216:=hs.es;have hpv:p.d.vec.length≤1000000000000:=hs.pv;have hpc:p.d.ab.length≤16777216:=hs.pc;have hrs:cN (rs.map fun r=>r.p.d)≤16777216:=hs.rs;have hrb:dx 10000000000 rs:=(fv hs.rv hrs).mono (by decide);have hrl:=jW hrs;refine uC 2 ?_;refine uB rfl hS ?_;clear hS;intro b1 w hS;refine uO 7 ?_;refine u1 0 (ad (cs:=[_,_,_,_]) rfl l8 fX (by exact hS.ag (xs:=[_,_,_,_]) rfl)) ?_;refine uF Gn rfl (qD _ ⟨⟨ea,ec,es⟩,p,⟨ra,rc,rs⟩⟩ (hp.sat hS) hs) ?_;rintro e w ⟨rfl,hT⟩;replace hS:Sat _ _ _:=hS.ai hT;clear hT;cases h5:aH (SL.d ⟨⟨ea,ec,es⟩,p,⟨ra,rc,rs⟩⟩)
 ·rw[if_neg (by decide)];refine⟨_,rfl,?_⟩;refine aR 0 0 (aK rfl rfl) ?_ ?_
  ·intro h6;refine uO 11 ?_;refine fy ?_;rw[fJ h5,jO h5];exact⟨none,0,rfl,fz (hS.aY 5 1)⟩
  ·intro h6;intro a hA;contradiction
 ·rw[if_pos rfl];refine⟨_,rfl,?_⟩;refine aR 0 0 (aK rfl rfl) ?_ ?_
  ·intro h6;intro a hA;contradiction
  ·intro h6;refine uO 7 ?_;refine u1 0 (aa rfl sc) ?_;refine u1 0 (ld rfl ma) ?_;refine u1 0 (aa rfl r6) ?_;refine u1 0 (ad (cs:=[_,_]) rfl a6 aC (by exact hS.ag (xs:=[_,_]) rfl)) ?_;refine u1 0 (aa rfl rI) ?_;refine u1 0 (ld rfl l5) ?_;refine uF Gj rfl (vh _ 1 ea ec es p ra rc rs (by decide) (he.sat hS) (hpp.sat hS) (hrt.sat hS) (fun r h=>(hre r h).sat hS) hel hpv hpc hs.rv hrs (bc h5).1 (bc h5).2.1 (bc h5).2.2) ?_;rintro e w ⟨A13,c13,rfl,hT⟩;replace hS:=hS.aB hT;clear hT;refine⟨_,rfl,?_⟩;refine u1 0 (au rfl rfl) ?_;refine u1 5 (au rfl rfl) ?_;refine fy ?_;rw[eR h5,iE h5];exact⟨A13,c13,rfl,fz hS⟩
theorem vJ (W:World)(s:SL)(hp:s.ok W)(hs:jY s):Calls Tryz.prog 337 #[.agg #[.slice s.e.a s.e.es.length s.e.c,.slice s.p.va s.p.d.vec.length s.p.vc,.slice s.p.ca s.p.d.ab.length s.p.cc,.slice s.r.a s.r.rs.length s.r.c]] W fun e w'=>∃A' c',e=.returned (.tuple #[.slice A' (dW bH 2 s.d).length c',.int .i64 (pd bH s.d)])∧Sat W w' [row 5 1 (.slice A' (dW bH 2 s.d).length c') (dW bH 2 s.d).length ((dW bH 2 s.d).map an)]:=by
 refine enter Tryz.func337 rfl rfl rfl (.cons (i:=0) rfl .nil) ?_;have hS:=Sat.start W;obtain⟨⟨ea,ec,es⟩,p,⟨ra,rc,rs⟩⟩:=s;have he:fI W ea ec es:=hp.e;have hpp:p.ok W:=hp.p;have hrt:fO W ra rc rs:=hp.r.top;have hre:∀r∈rs,r.p.ok W:=hp.r.each;have hel:es.length≤16777216:=hs.es;have hpv:p.d.vec.length≤1000000000000:=hs.pv;have hpc:p.d.ab.length≤16777216:=hs.pc;have hrs:cN (rs.map fun r=>r.p.d)≤16777216:=hs.rs;have hrb:dx 10000000000 rs:=(fv hs.rv hrs).mono (by decide);have hrl:=jW hrs;refine uC 2 ?_;refine uB rfl hS ?_;clear hS;intro b1 w hS;refine uO 7 ?_;refine u1 0 (ad (cs:=[_,_,_,_]) rfl mq gM (by exact hS.ag (xs:=[_,_,_,_]) rfl)) ?_;refine uF Gs rfl (qb _ ⟨⟨ea,ec,es⟩,p,⟨ra,rc,rs⟩⟩ (hp.sat hS) hs) ?_;rintro e w ⟨rfl,hT⟩;replace hS:Sat _ _ _:=hS.ai hT;clear hT;cases h5:bH (SL.d ⟨⟨ea,ec,es⟩,p,⟨ra,rc,rs⟩⟩)
 ·rw[if_neg (by decide)];refine⟨_,rfl,?_⟩;refine aR 0 0 (aK rfl rfl) ?_ ?_
  ·intro h6;refine uO 11 ?_;refine fy ?_;rw[fJ h5,jO h5];exact⟨none,0,rfl,fz (hS.aY 5 1)⟩
  ·intro h6;intro a hA;contradiction
 ·rw[if_pos rfl];have hFf:=eC h5;refine⟨_,rfl,?_⟩;refine aR 0 0 (aK rfl rfl) ?_ ?_
  ·intro h6;intro a hA;contradiction
  ·intro h6;refine uO 7 ?_;refine u1 0 (aa rfl jV) ?_;refine u1 0 (ld rfl ma) ?_;refine u1 0 (aa rfl l9) ?_;refine u1 0 (ad (cs:=[_,_]) rfl a6 aC (by exact hS.ag (xs:=[_,_]) rfl)) ?_;refine u1 0 (aa rfl j3) ?_;refine u1 0 (ld rfl l5) ?_;refine uF Gj rfl (vh _ 2 ea ec es p ra rc rs (by decide) (he.sat hS) (hpp.sat hS) (hrt.sat hS) (fun r h=>(hre r h).sat hS) hel hpv hpc hs.rv hrs (bc hFf).1 (bc hFf).2.1 (bc hFf).2.2) ?_;rintro e w ⟨A13,c13,rfl,hT⟩;replace hS:=hS.aB hT;clear hT;refine⟨_,rfl,?_⟩;refine u1 0 (au rfl rfl) ?_;refine u1 5 (au rfl rfl) ?_;refine fy ?_;rw[eR h5,iE h5];exact⟨A13,c13,rfl,fz hS⟩
theorem yX (W:World)(s:SL)(hp:s.ok W)(hs:jY s):Calls Tryz.prog 423 #[.agg #[],.agg #[.slice s.e.a s.e.es.length s.e.c,.slice s.p.va s.p.d.vec.length s.p.vc,.slice s.p.ca s.p.d.ab.length s.p.cc,.slice s.r.a s.r.rs.length s.r.c]] W fun e w'=>∃A' c',e=.returned (.tuple #[.slice A' (dW aH 1 s.d).length c',.int .i64 (pd aH s.d)])∧Sat W w' [row 5 1 (.slice A' (dW aH 1 s.d).length c') (dW aH 1 s.d).length ((dW aH 1 s.d).map an)]:=by
 refine enter Tryz.func423 rfl rfl rfl (.cons (i:=0) rfl (.cons (i:=1) rfl .nil)) ?_;have hS:=Sat.start W;refine uC 2 ?_;refine uB rfl hS ?_;clear hS;intro b2 w hS;refine uB rfl hS ?_;clear hS;intro b3 w hS;refine uO 6 ?_;refine u1 0 (ad (cs:=[_,_,_,_]) rfl l8 fX (by exact hS.ag (xs:=[_,_,_,_]) rfl)) ?_;refine uF KD rfl (uS _ s (hp.sat hS) hs) ?_;rintro e w ⟨A7,c7,rfl,hT⟩;replace hS:=hS.aB hT;clear hT;refine⟨_,rfl,?_⟩;refine u1 0 (au rfl rfl) ?_;refine u1 5 (au rfl rfl) ?_;refine fy ?_;exact⟨A7,c7,rfl,fz hS⟩
theorem zg (W:World)(s:SL)(hp:s.ok W)(hs:jY s):Calls Tryz.prog 331 #[.agg #[],.agg #[.slice s.e.a s.e.es.length s.e.c,.slice s.p.va s.p.d.vec.length s.p.vc,.slice s.p.ca s.p.d.ab.length s.p.cc,.slice s.r.a s.r.rs.length s.r.c]] W fun e w'=>∃A' c',e=.returned (.tuple #[.slice A' (dW bH 2 s.d).length c',.int .i64 (pd bH s.d)])∧Sat W w' [row 5 1 (.slice A' (dW bH 2 s.d).length c') (dW bH 2 s.d).length ((dW bH 2 s.d).map an)]:=by
 refine enter Tryz.func331 rfl rfl rfl (.cons (i:=0) rfl (.cons (i:=1) rfl .nil)) ?_;have hS:=Sat.start W;refine uC 2 ?_;refine uB rfl hS ?_;clear hS;intro b2 w hS;refine uB rfl hS ?_;clear hS;intro b3 w hS;refine uO 6 ?_;refine u1 0 (ad (cs:=[_,_,_,_]) rfl mq gM (by exact hS.ag (xs:=[_,_,_,_]) rfl)) ?_;refine uF Ij rfl (vJ _ s (hp.sat hS) hs) ?_;rintro e w ⟨A7,c7,rfl,hT⟩;replace hS:=hS.aB hT;clear hT;refine⟨_,rfl,?_⟩;refine u1 0 (au rfl rfl) ?_;refine u1 5 (au rfl rfl) ?_;refine fy ?_;exact⟨A7,c7,rfl,fz hS⟩
end Go.Proofs.YtkjabaihpkbfhaaGreat.Wk
namespace Go.Proofs.YtkjabaihpkbfhaaGreat.Wk
open Go Go.RowKit Go.Proofs.YtkjabaihpkbfhaaGreat Go.Proofs.YtkjabaihpkbfhaaGreat.K
theorem my {α:Type}{f:Option α→List UInt8→Option (α×List UInt8)}{n:Nat}{p:Option α}{l r:List UInt8}{x:α}{xs:List α}{R:Option (List α×List UInt8)}
 (hq:R=(ft f (n+1) p l).map fun q=>(xs++q.1,q.2)) (h:f p l=some (x,r)):R=(ft f n (some x) r).map fun q=>(xs++[x]++q.1,q.2):=by
 rw[hq,ri h,Option.map_map]
 congr 1
 funext q
 simp
theorem dB {α:Type}{f:Option α→List UInt8→Option (α×List UInt8)}{n:Nat}{p:Option α}{l:List UInt8}{xs:List α}{R:Option (List α×List UInt8)}
 (hq:R=(ft f (n+1) p l).map fun q=>(xs++q.1,q.2)) (h:f p l=none):R=none:=by rw[hq,wU h];rfl
theorem qB {α:Type}{f:Option α→List UInt8→Option (α×List UInt8)}{p:Option α}{l:List UInt8}{xs:List α}{R:Option (List α×List UInt8)}
 (hq:R=(ft f 0 p l).map fun q=>(xs++q.1,q.2)):R=some (xs,l):=by rw[hq,ft];simp
theorem nq {α:Type}{f:Option α→List UInt8→Option (α×List UInt8)}{n:Nat}{p:Option α}{l:List UInt8}:ft f n p l=(ft f n p l).map fun q=>(([]:List α)++q.1,q.2):=by
 cases ft f n p l with
 | none=>rfl
 | some q=>rfl
theorem fR {α:Type}(xs:List α)(x:α):(xs++[x]).getLast?=some x:=by simp
theorem cf (W w:World)(L:List As)(r:Nat)(A:Option Addr)(c:Nat)(bs:List UInt8)(at_:Nat)(mo:Int)(hS:Sat W w (gY r A c bs at_ true 0::L))(hat:at_≤bs.length)(hb:bs.length≤140737488355328)(hR:∀w,Sat W w L→Rd w 1 (.slice A bs.length c) bs.length (bs.map an)):Calls Tryz.prog 100 #[.pointer (some ⟨r,0,none⟩),.int .i64 mo] w fun e w'=>
 (∃v at':Nat,bP mo (bs.drop at_)=some (v,bs.drop at')∧at'≤bs.length∧(v:Int)≤mo∧v≤9223372036854775807∧e=.returned (.int .i64 (v:Int))∧Sat W w' (gY r A c bs (at':Int) true 0::L))∨(bP mo (bs.drop at_)=none∧xS (.iface 271 (.agg #[.pointer (some ⟨r,0,none⟩)])) e∧∃at' er:Int,er≠0∧Sat W w' (gY r A c bs at' true er::L)):=
 (pR W w L r A c bs at_ mo hS hat hb hR).mono fun e w' h=>by
  rcases h with ⟨h0,he,hs⟩ | ⟨h0,hp,at',hs⟩
  ·
   obtain⟨v,a,hu,h1,h2,h3,h4⟩:=KZ h0;rw[hu]at he hs;exact .inl ⟨v,a,h1,h2,h3,h4,he,hs⟩
  ·
   exact .inr ⟨tf h0,hp,at',_,by omega,hs⟩
theorem hZ (W w:World)(L:List As)(r:Nat)(A:Option Addr)(c:Nat)(bs:List UInt8)(at_:Nat)(ea:Int)(hS:Sat W w (gY r A c bs at_ true 0::L))(hat:at_≤bs.length)(hb:bs.length≤140737488355328)(hR:∀w,Sat W w L→Rd w 1 (.slice A bs.length c) bs.length (bs.map an))(h1:1≤ea)(h2:ea≤9223372036854775807):Calls Tryz.prog 102 #[.pointer (some ⟨r,0,none⟩),.int .i64 ea] w fun e w'=>
 (∃v at':Nat,bP 9223372036854775807 (bs.drop at_)=some (v,bs.drop at')∧at'≤bs.length∧v * ea.toNat≤bs.length-at'∧e=.returned (.int .i64 (v:Int))∧Sat W w' (gY r A c bs (at':Int) true 0::L))∨
 ((bP 9223372036854775807 (bs.drop at_)=none∨∃(v:Nat) (rr:List UInt8),bP 9223372036854775807 (bs.drop at_)=some (v,rr)∧rr.length<v * ea.toNat)∧xS (.iface 271 (.agg #[.pointer (some ⟨r,0,none⟩)])) e∧∃at' er:Int,er≠0∧Sat W w' (gY r A c bs at' true er::L)):=
 (xm W w L r A c bs at_ ea hS hat hb hR h2).mono fun e w' h=>by
  rcases h with ⟨h0,he,hs⟩ | ⟨h0,hp,at',hs⟩
  ·
   obtain⟨v,a,hu,h3,h4,h5⟩:=LP h1 h0;rw[hu]at he hs;exact .inl ⟨v,a,h3,h4,h5,he,hs⟩
  ·
   exact .inr ⟨Hv h1 h0,hp,at',_,by omega,hs⟩
theorem mY (W w:World)(L:List As)(r:Nat)(A:Option Addr)(c:Nat)(bs:List UInt8)(at_:Nat)(mo:Int)(hS:Sat W w (gY r A c bs at_ true 0::L))(hat:at_≤bs.length)(hb:bs.length≤140737488355328)(hR:∀w,Sat W w L→Rd w 1 (.slice A bs.length c) bs.length (bs.map an)):Calls Tryz.prog 394 #[.pointer (some ⟨r,0,none⟩),.int .i64 mo] w fun e w'=>
 (∃(s:List UInt8) (at':Nat),dh mo (bs.drop at_)=some (s,bs.drop at')∧at'≤bs.length∧e=.returned (.string (str s))∧Sat W w' (gY r A c bs (at':Int) true 0::L))∨(dh mo (bs.drop at_)=none∧xS (.iface 271 (.agg #[.pointer (some ⟨r,0,none⟩)])) e∧∃at' er:Int,er≠0∧Sat W w' (gY r A c bs at' true er::L)):=
 (zD W w L r A c bs at_ mo hS hat hb hR).mono fun e w' h=>by
  rcases h with ⟨h0,he,hs⟩ | ⟨h0,hp,at',hs⟩
  ·
   obtain⟨s,a,hu,h1,h2⟩:=LK h0;rw[hu]at he hs;exact .inl ⟨s,a,h1,h2,he,hs⟩
  ·
   exact .inr ⟨wZ h0,hp,at',_,by omega,hs⟩
theorem CS {most:Int}{p:Option Int}{l r:List UInt8}{v:Nat}(h:bP most l=some (v,r)):(ly most).f p l=some ((v:Int),r):=by
 show (match bP most l with | none=>none | some (v,r)=>some ((v:Int),r))=_;rw[h]
theorem Da {most:Int}{p:Option Int}{l:List UInt8}(h:bP most l=none):(ly most).f p l=none:=by
 show (match bP most l with | none=>none | some (v,r)=>some ((v:Int),r))=_;rw[h]
theorem FD {l:List UInt8}(h:bP 16 l=none):fu l=none:=by unfold fu;rw[h]
theorem Fl {l l1:List UInt8}{n:Nat}(h:bP 16 l=some (n,l1))(h2:ft (ly 1000000000).f n none l1=none):fu l=none:=by unfold fu;rw[h];simp only;rw[h2]
theorem FE {l l1 l2:List UInt8}{n:Nat}{vec:List Int}(h:bP 16 l=some (n,l1))(h2:ft (ly 1000000000).f n none l1=some (vec,l2))(h3:bP 9223372036854775807 l2=none):fu l=none:=by unfold fu;rw[h];simp only;rw[h2];simp only;rw[h3]
theorem oT {l l1 l2 l3:List UInt8}{n k:Nat}{vec:List Int}(h:bP 16 l=some (n,l1))(h2:ft (ly 1000000000).f n none l1=some (vec,l2))(h3:bP 9223372036854775807 l2=some (k,l3))(h4:ft (gJ vec) k none l3=none):fu l=none:=by unfold fu;rw[h];simp only;rw[h2];simp only;rw[h3];simp only;rw[h4]
theorem FM {l l1 l2 l3 r:List UInt8}{n k:Nat}{vec:List Int}{cl:List aO}(h:bP 16 l=some (n,l1))(h2:ft (ly 1000000000).f n none l1=some (vec,l2))(h3:bP 9223372036854775807 l2=some (k,l3))(h4:ft (gJ vec) k none l3=some (cl,r)):fu l=some (⟨vec,cl⟩,r):=by unfold fu;rw[h];simp only;rw[h2];simp only;rw[h3];simp only;rw[h4]
theorem Ad {vec:List Int}(hv:∀v∈vec,0≤v∧v≤1000000000){k:Nat}{l:List UInt8}(h:l.length<k * 3):ft (gJ vec) k none l=none:=by
 cases e:ft (gJ vec) k none l with
 | none=>rfl
 | some q =>
   obtain⟨xs,r⟩:=q;have:=EN (sW vec fun r=>(dH hv r).1) (k:=3) (p:=none) (fun q hq=>by cases hq) (fun p x=>wO vec p x) e;omega
theorem FZ {vec:List Int}{p:Option aO}{l:List UInt8}(h:bP 16 l=none):gJ vec p l=none:=by unfold gJ;rw[h]
theorem Fy {vec:List Int}{p:Option aO}{l l1:List UInt8}{st:Nat}(h:bP 16 l=some (st,l1))(h1:16≤cJ p+st):gJ vec p l=none:=by unfold gJ;rw[h];simp only;rw[if_pos h1]
theorem Fg {vec:List Int}{p:Option aO}{l l1:List UInt8}{st:Nat}(h:bP 16 l=some (st,l1))(h2:bP 1000000000 l1=none):gJ vec p l=none:=by
 unfold gJ;rw[h];simp only
 split
 ·
  rfl
 ·
  rw[h2]
theorem Fh {vec:List Int}{p:Option aO}{l l1 l2:List UInt8}{st sk:Nat}(h:bP 16 l=some (st,l1))(h2:bP 1000000000 l1=some (sk,l2))(h3:bP 1000000000 l2=none):gJ vec p l=none:=by
 unfold gJ;rw[h];simp only
 split
 ·
  rfl
 ·
  rw[h2];simp only;rw[h3]
theorem Fu {vec:List Int}{p:Option aO}{l l1 l2 l3:List UInt8}{st sk mo:Nat}(h:bP 16 l=some (st,l1))(h2:bP 1000000000 l1=some (sk,l2))(h3:bP 1000000000 l2=some (mo,l3))(h4:1000000000<bC vec p (cJ p+st)+sk+mo):gJ vec p l=none:=by
 unfold gJ;rw[h];simp only
 split
 ·
  rfl
 ·
  rw[h2];simp only;rw[h3];simp only;rw[if_pos h4]
theorem Fp {vec:List Int}{p:Option aO}{l l1 l2 l3:List UInt8}{st sk mo:Nat}(h:bP 16 l=some (st,l1))(h1:¬16≤cJ p+st)(h2:bP 1000000000 l1=some (sk,l2))(h3:bP 1000000000 l2=some (mo,l3))(h4:¬1000000000<bC vec p (cJ p+st)+sk+mo):gJ vec p l=some (⟨cJ p+st,bC vec p (cJ p+st)+sk,bC vec p (cJ p+st)+sk+mo⟩,l3):=by
 unfold gJ;rw[h];simp only;rw[if_neg h1,h2];simp only;rw[h3];simp only;rw[if_neg h4]
theorem Cy {vec:List Int}(hv:∀v∈vec,0≤v∧v≤1000000000){ys:List aO}(hy:∀s∈ys,0≤s.rep∧s.rep<16∧0≤s.hi∧s.hi≤1000000000)(rep:Int):0≤bC vec ys.getLast? rep∧bC vec ys.getLast? rep≤1000000002:=by
 unfold bC;have:=dH hv rep.toNat;cases e:ys.getLast? with
 | none=>simp only;omega
 | some q=>have:=hy q (List.mem_of_getLast? e);simp only;split<;>omega
theorem FC {ys:List aO}(hy:∀s∈ys,0≤s.rep∧s.rep<16∧0≤s.hi∧s.hi≤1000000000):0≤cJ ys.getLast?∧cJ ys.getLast? < 16:=by
 unfold cJ;cases e:ys.getLast? with
 | none=>simp
 | some q=>have:=hy q (List.mem_of_getLast? e);simp only;omega
end Go.Proofs.YtkjabaihpkbfhaaGreat.Wk
namespace Go.Proofs.YtkjabaihpkbfhaaGreat.Wk
open Go Go.RowKit Go.Proofs.YtkjabaihpkbfhaaGreat Go.Proofs.YtkjabaihpkbfhaaGreat.K Go.Proofs.YtkjabaihpkbfhaaGreat.T
theorem ph (W w:World)(L:List As)(r:Nat)(A:Option Addr)(c:Nat)(bs:List UInt8)(at_:Nat)(hS:Sat W w (gY r A c bs at_ true 0::L))(hat:at_≤bs.length)(hb:bs.length≤1000000000000)(hR:∀w,Sat W w L→Rd w 1 (.slice A bs.length c) bs.length (bs.map an)):Calls Tryz.prog 383 #[.pointer (some ⟨r,0,none⟩)] w fun e w'=>(∃(q:PL) (at':Nat),fu (bs.drop at_)=some (q.d,bs.drop at')∧at'≤bs.length∧q.d.ab.length≤bs.length∧e=.returned (.agg #[.slice q.va q.d.vec.length q.vc,.slice q.ca q.d.ab.length q.cc])∧Sat W w' (gY r A c bs (at':Int) true 0::cI 3 q.va q.vc q.d.vec::bK 219 q.ca q.cc q.d.ab::L))∨(fu (bs.drop at_)=none∧xS (.iface 271 (.agg #[.pointer (some ⟨r,0,none⟩)])) e∧∃at' er:Int,er≠0∧Sat W w' (gY r A c bs at' true er::L)):=by
 refine enter Tryz.func383 rfl rfl rfl (.cons (i:=0) rfl .nil) ?_;refine uC 2 ?_;refine uN dL hS ?_;clear hS;intro b2 w hS;refine uO 4 ?_;refine uN dL hS ?_;clear hS;intro b3 w hS;refine uO 6 ?_;intro a hA;refine dY hA rfl gP rfl (cf _ _ _ r A c bs at_ 16 (hS.p 2) (by omega) (by omega) (fun w s=>hR w s.drop.drop)) ?_;rintro e w (⟨v8,at8,hn8,ha8,hv8,hw8,rfl,hS'⟩ | ⟨hn8,⟨older,rfl,ho⟩,at',er,hne,hS'⟩)
 ·clear hS;have hS:=hS';clear hS';refine .inl ⟨_,rfl,?_⟩;clear hA a;refine uO 4 ?_;intro a hA;refine wp_loop_ghost (fun (mm:Nat) a w=>∃(i:Nat) (xs:List Int) (Av:Option Addr) (cv at1:Nat),Ag a 59 [(0,.pointer (some ⟨r,0,none⟩)),(2,.pointer (some ⟨b2,0,none⟩)),(3,.pointer (some ⟨b3,0,none⟩)),(8,.int .i64 ((v8:Nat):Int)),(9,.int .i64 ((i:Nat):Int))]∧Sat W w (gY r A c bs (at1:Int) true 0::a8 b3 (.cells #[.slice Av xs.length cv,.slice none 0 0] 63)::cI 3 Av cv xs::a8 b2 (.cells #[.slice none 0 0,.slice none 0 0] 63)::L)∧(i≤v8)∧(xs.length=i)∧(at1≤bs.length)∧(ft (ly 1000000000).f v8 none (bs.drop at8)=(ft (ly 1000000000).f (v8-i) xs.getLast? (bs.drop at1)).map fun q=>(xs++q.1,q.2))∧(∀v∈xs,0≤v∧v≤1000000000)∧mm=v8-i) v8 ?_ ?_
  ·replace hA:=hA.kp [0,2,3,8,9] rfl;exact⟨0,[],none,0,at8,hA,(((((hS.aY 3 1).p 3).p 1).p 3).p 3),(by omega),(by rfl),(by omega),(by exact nq),(by intro v hv;cases hv),by omega⟩
  intro m a w hI;clear hS hA;obtain⟨i,xs,Av,cv,at1,hA,hS,hi,hxl,hat1,hq,hx0,rfl⟩:=hI;refine rC 2 hA ?_;clear hA a;refine aR 0 0 (aw rfl rfl) ?_ ?_
  ·intro h10;refine uO 8 ?_;intro a hA;refine jh [5,7] (lr W (a8 b3 (.cells #[.slice Av xs.length cv,.slice none 0 0] 63)::cI 3 Av cv xs::a8 b2 (.cells #[.slice none 0 0,.slice none 0 0] 63)::L)) (by kernel_rfl) ?_;replace hS:=hS.drew;refine P1 0 [] hA rfl (fun w=>(aa (hA.ev rfl) cw)) ?_;clear hA a;refine cT 1 [2] rfl (by exact⟨[_],hS⟩) (fun w hT=>have hS:=hT.sat;(ld rfl cW)) ?_;intro a hA;refine aG 3 (by kernel_rfl) ?_;refine Gl hA rfl rfl gP rfl (cf _ _ _ r A c bs at1 1000000000 hS (by omega) (by omega) (fun w s=>hR w s.drop.drop.drop)) ?_;rintro e w (⟨v14,at14,hn14,ha14,hv14,hw14,rfl,hS'⟩ | ⟨hn14,⟨older,rfl,ho⟩,at',er,hne,hS'⟩)
   rotate_left 1
   ·refine .inr ⟨_,rfl,?_⟩;refine rE 5 hA ?_;clear hA a;intro a hA;refine de hA ?_;clear hS;have hS:=hS';clear hS';refine .inr ⟨Fl hn8 (dB (n:=v8-(i+1)) (by rw[hq,show v8-i=(v8-(i+1))+1 from by omega]) (Da hn14)),⟨older,rfl,ho⟩,at',er,hne,(((hS.p 1).drop.p 1).drop.p 1).drop⟩
   clear hS;have hS:=hS';clear hS';refine .inl ⟨_,rfl,?_⟩;clear hA a;intro a hA;refine⟨.inr fun _=>(by exact⟨[_],hS⟩),?_⟩;refine aG 4 (by kernel_rfl) ?_;refine eL hA rfl rfl rfl aE jQ rfl rfl rfl (by simp[Value.oneCell']) hS ?_;clear hA a hS;intro A15 w hS;intro a hA;refine⟨.inr fun _=>(by exact⟨[_,_],hS⟩),?_⟩;refine aG 5 (by kernel_rfl) ?_
   first | refine eA hA rfl rfl rfl rfl aE jQ rfl hS (by exact hS.rd.src aE (by simp[Value.oneCell'])) (by omega) (by omega) ?_ | refine eA hA rfl rfl rfl rfl aE jQ rfl (hS.p 1) (by exact hS.rd.src aE (by simp[Value.oneCell'])) (by omega) (by omega) ?_ | refine eA hA rfl rfl rfl rfl aE jQ rfl (hS.p 2) (by exact hS.rd.src aE (by simp[Value.oneCell'])) (by omega) (by omega) ?_ | refine eA hA rfl rfl rfl rfl aE jQ rfl (hS.p 3) (by exact hS.rd.src aE (by simp[Value.oneCell'])) (by omega) (by omega) ?_ | refine eA hA rfl rfl rfl rfl aE jQ rfl (hS.p 4) (by first | exact hS.rd.src aE (by simp[Value.oneCell']) | exact (hS.p 1).rd.src aE (by simp[Value.oneCell']) | exact (hS.p 2).rd.src aE (by simp[Value.oneCell']) | exact (hS.p 3).rd.src aE (by simp[Value.oneCell']) | exact (hS.p 4).rd.src aE (by simp[Value.oneCell']) | exact (hS.p 5).rd.src aE (by simp[Value.oneCell']) | exact (hS.p 6).rd.src aE (by simp[Value.oneCell'])) (by omega) (by omega) ?_ | refine eA hA rfl rfl rfl rfl aE jQ rfl (hS.p 5) (by first | exact hS.rd.src aE (by simp[Value.oneCell']) | exact (hS.p 1).rd.src aE (by simp[Value.oneCell']) | exact (hS.p 2).rd.src aE (by simp[Value.oneCell']) | exact (hS.p 3).rd.src aE (by simp[Value.oneCell']) | exact (hS.p 4).rd.src aE (by simp[Value.oneCell']) | exact (hS.p 5).rd.src aE (by simp[Value.oneCell']) | exact (hS.p 6).rd.src aE (by simp[Value.oneCell'])) (by omega) (by omega) ?_ | refine eA hA rfl rfl rfl rfl aE jQ rfl (hS.p 6) (by first | exact hS.rd.src aE (by simp[Value.oneCell']) | exact (hS.p 1).rd.src aE (by simp[Value.oneCell']) | exact (hS.p 2).rd.src aE (by simp[Value.oneCell']) | exact (hS.p 3).rd.src aE (by simp[Value.oneCell']) | exact (hS.p 4).rd.src aE (by simp[Value.oneCell']) | exact (hS.p 5).rd.src aE (by simp[Value.oneCell']) | exact (hS.p 6).rd.src aE (by simp[Value.oneCell'])) (by omega) (by omega) ?_
   clear hA a hS;intro A16 c16 w hc16 hS;intro a hA;refine⟨.inl rfl,?_⟩;refine P1 6 [] hA rfl (fun w=>(aa (hA.ev rfl) cw)) ?_;clear hA a;intro a hA;refine aG 7 (by kernel_rfl) ?_;refine HF (cs':=[_,_]) hA rfl rfl rfl cW fS rfl (hS.p 3) rfl rfl ?_;clear hS;intro w hS;refine⟨.inl rfl,?_⟩;refine ak (by kernel_rfl) ?_ _;refine rE 3 hA ?_;clear hA a;refine u1 2 (ah rfl rfl (by omega) (by omega)) ?_;intro a hA;replace hA:=hA.kp [0,2,3,8,9] rfl;rw[show v8-i=(v8-(i+1))+1 from (by omega)]at hq;have hq2:=my hq (CS hn14);rw[←fR xs (v14:Int)]at hq2;have el:xs.length+1=(xs++[(v14:Int)]).length:=by simp
   have hS2:=iH ((((hS.p 4).p 4).p 2).p 3) el (cs':=(xs++[(v14:Int)]).map (Value.int .i64)) (by simp);rw[el]at hS2;refine⟨v8-(i+1),by omega,i+1,xs++[(v14:Int)],A16,c16,at14,hA,(((((hS2.p 3).p 1).p 2).p 3).p 4).drop,by omega,by simp;omega,ha14,hq2,?_,rfl⟩;intro z hz;rcases List.mem_append.1 hz with hz | hz
   ·exact hx0 z hz
   ·simp at hz;subst hz;omega
  ·intro h10;obtain rfl:i=v8:=by omega
   intro a hA;rw[Nat.sub_self]at hq;have hvec:=qB hq;refine rO 18 hA ?_;clear hA a;intro a hA;refine dY hA rfl yB rfl (hZ _ _ _ r A c bs at1 3 hS (by omega) (by omega) (fun w s=>hR w s.drop.drop.drop) (by decide) (by decide)) ?_;rintro e w (⟨v20,at20,hn20,ha20,hk20,rfl,hS'⟩ | ⟨hn20,⟨older,rfl,ho⟩,at',er,hne,hS'⟩)
   ·clear hS;have hS:=hS';clear hS';rw[show (3:Int).toNat=3 from rfl]at hk20;refine .inl ⟨_,rfl,?_⟩;clear hA a;refine uO 3 ?_;intro a hA;replace hA:=hA.kp [0,2,3,4,20,21] rfl;refine rC 1 hA ?_;clear hA a;intro a hA
    refine wp_loop_ghost (fun (mm:Nat) a w=>∃(j:Nat) (ys:List aO) (Ac:Option Addr) (cc at2:Nat),Ag a 59 [(0,.pointer (some ⟨r,0,none⟩)),(2,.pointer (some ⟨b2,0,none⟩)),(3,.pointer (some ⟨b3,0,none⟩)),(4,.int .i64 ((cJ ys.getLast?))),(20,.int .i64 ((v20:Nat):Int)),(21,.int .i64 ((j:Nat):Int))]∧Sat W w (gY r A c bs (at2:Int) true 0::a8 b3 (.cells #[.slice Av xs.length cv,.slice Ac ys.length cc] 63)::cI 3 Av cv xs::bK 219 Ac cc ys::a8 b2 (.cells #[.slice none 0 0,.slice none 0 0] 63)::L)∧(j≤v20)∧(ys.length=j)∧(at2≤bs.length)∧(ft (gJ xs) v20 none (bs.drop at20)=(ft (gJ xs) (v20-j) ys.getLast? (bs.drop at2)).map fun q=>(ys++q.1,q.2))∧(∀s∈ys,0≤s.rep∧s.rep<16∧0≤s.hi∧s.hi≤1000000000)∧mm=v20-j) v20 ?_ ?_
    ·replace hA:=hA.kp [0,2,3,4,20,21] rfl;exact⟨0,[],none,0,at20,hA,((((((hS.aY 219 3).p 4).p 1).p 4).p 4).p 4),(by omega),(by rfl),(by omega),(by exact nq),(by intro v hv;cases hv),by omega⟩
    intro m a w hI;clear hS hA;obtain⟨j,ys,Ac,cc,at2,hA,hS,hj,hyl,hat2,hq2,hy0,rfl⟩:=hI;refine rC 2 hA ?_;clear hA a;refine aR 0 0 (aw rfl rfl) ?_ ?_
    ·intro h22;obtain⟨hp0,hp1⟩:=FC hy0;refine uO 12 ?_;intro a hA;refine dY hA rfl gP rfl (cf _ _ _ r A c bs at2 16 hS (by omega) (by omega) (fun w s=>hR w s.drop.drop.drop.drop)) ?_;rintro e w (⟨v25,at25,hn25,ha25,hv25,hw25,rfl,hS'⟩ | ⟨hn25,⟨older,rfl,ho⟩,at',er,hne,hS'⟩)
     ·clear hS;have hS:=hS';clear hS';refine .inl ⟨_,rfl,?_⟩;clear hA a;refine u1 7 (ah rfl rfl (by omega) (by omega)) ?_;refine aR 0 0 (eo rfl rfl) ?_ ?_
      ·intro h28;refine uO 5 ?_;intro a hA;refine dY hA rfl lI rfl (cU _ _ _ r A c bs at25 8 hS (by omega) (by omega) (fun w s=>hR w s.drop.drop.drop.drop)) ?_;rintro e w ⟨⟨older,rfl,ho⟩,at',hS'⟩
       ·refine .inr ⟨_,rfl,?_⟩;refine rE 6 hA ?_;clear hA a;intro a hA;refine de hA ?_;clear hS;have hS:=hS';clear hS';refine .inr ⟨oT hn8 hvec hn20 (dB (n:=v20-(j+1)) (by rw[hq2,show v20-j=(v20-(j+1))+1 from by omega]) (Fy hn25 (by omega))),⟨older,rfl,ho⟩,at',8,by decide,((((hS.p 1).drop.p 1).drop.p 1).drop.p 1).drop⟩
      ·intro h28;refine uO 7 ?_;obtain⟨hm0,hm1⟩:=Cy hx0 hy0 (cJ ys.getLast?+(v25:Int));refine u1 0 (aa rfl cw) ?_;refine u1 1 (ld rfl cW) ?_;refine u1 0 (aa rfl bZ) ?_;refine u1 0 (ld rfl eM) ?_;refine uF GK rfl (sx _ Av cv xs _ Ac ys.length cc ys (hS.p 2).rd (hS.p 3).rd rfl (by omega) (by omega) hx0 (fun s hs=>by have:=hy0 s hs;omega) (by omega) (by omega)) ?_;rintro e w ⟨rfl,hT⟩;replace hS:Sat _ _ _:=hS.ai hT;clear hT;refine⟨_,rfl,?_⟩;refine uO 1 ?_;intro a hA;refine dY hA rfl gP rfl (cf _ _ _ r A c bs at25 1000000000 hS (by omega) (by omega) (fun w s=>hR w s.drop.drop.drop.drop)) ?_;rintro e w (⟨v38,at38,hn38,ha38,hv38,hw38,rfl,hS'⟩ | ⟨hn38,⟨older,rfl,ho⟩,at',er,hne,hS'⟩)
       ·clear hS;have hS:=hS';clear hS';refine .inl ⟨_,rfl,?_⟩;clear hA a;refine u1 7 (ah rfl rfl (by omega) (by omega)) ?_;intro a hA;refine dY hA rfl gP rfl (cf _ _ _ r A c bs at38 1000000000 hS (by omega) (by omega) (fun w s=>hR w s.drop.drop.drop.drop)) ?_;rintro e w (⟨v42,at42,hn42,ha42,hv42,hw42,rfl,hS'⟩ | ⟨hn42,⟨older,rfl,ho⟩,at',er,hne,hS'⟩)
        ·clear hS;have hS:=hS';clear hS';refine .inl ⟨_,rfl,?_⟩;clear hA a;refine u1 7 (ah rfl rfl (by omega) (by omega)) ?_;refine aR 0 0 (dv rfl rfl) ?_ ?_
         ·intro h45;refine uO 5 ?_;intro a hA;refine dY hA rfl lI rfl (cU _ _ _ r A c bs at42 8 hS (by omega) (by omega) (fun w s=>hR w s.drop.drop.drop.drop)) ?_;rintro e w ⟨⟨older,rfl,ho⟩,at',hS'⟩
          ·refine .inr ⟨_,rfl,?_⟩;refine rE 6 hA ?_;clear hA a;intro a hA;refine de hA ?_;clear hS;have hS:=hS';clear hS';refine .inr ⟨oT hn8 hvec hn20 (dB (n:=v20-(j+1)) (by rw[hq2,show v20-j=(v20-(j+1))+1 from by omega]) (Fu hn25 hn38 hn42 (by omega))),⟨older,rfl,ho⟩,at',8,by decide,((((hS.p 1).drop.p 1).drop.p 1).drop.p 1).drop⟩
         ·intro h45;refine uO 6 ?_;refine u1 0 (aa rfl bZ) ?_;refine u1 3 (ld rfl eM) ?_;intro a hA;refine o1 0 hA (aP hA rfl jy) ?_;clear hA a;intro a hA;refine ji (vss:=[[_,_,_]]) hA rfl rfl dm o0 rfl rfl rfl (by simp) rfl hS ?_;clear hA a hS;intro A54 w hS;intro a hA;refine dy hA rfl rfl rfl dm o0 rfl (hS.p 4) (hS.rd.src dm (by simp[Value.oneCell'])) (by omega) (by omega) ?_;clear hA a hS;intro A55 c55 w hc55 hS;refine u1 0 (aa rfl bZ) ?_;intro a hA;refine mj (cs':=[_,_]) hA rfl rfl eM Ef rfl (hS.p 3) rfl rfl ?_;clear hS;intro w hS;refine rO 4 hA ?_;clear hA a;refine u1 2 (ah rfl rfl (by omega) (by omega)) ?_;intro a hA;replace hA:=hA.kp [0,2,3,4,20,21] rfl;rw[show v20-j=(v20-(j+1))+1 from (by omega)]at hq2;have hq3:=my hq2 (Fp hn25 (by omega) hn38 hn42 (by omega))
          rw[←fR ys (⟨cJ ys.getLast?+(v25:Int),bC xs ys.getLast? (cJ ys.getLast?+(v25:Int))+(v38:Int),bC xs ys.getLast? (cJ ys.getLast?+(v25:Int))+(v38:Int)+(v42:Int)⟩:aO)]at hq3;have el:ys.length+1=(ys++[(⟨cJ ys.getLast?+(v25:Int),bC xs ys.getLast? (cJ ys.getLast?+(v25:Int))+(v38:Int),bC xs ys.getLast? (cJ ys.getLast?+(v25:Int))+(v38:Int)+(v42:Int)⟩:aO)]).length:=by simp
          have hS2:=iH (((((hS.p 5).p 5).p 5).p 3).p 4) el (cs':=(ys++[(⟨cJ ys.getLast?+(v25:Int),bC xs ys.getLast? (cJ ys.getLast?+(v25:Int))+(v38:Int),bC xs ys.getLast? (cJ ys.getLast?+(v25:Int))+(v38:Int)+(v42:Int)⟩:aO)]).flatMap gx) (by rw[List.flatMap_append];rfl);rw[el]at hS2;rw[show cJ ys.getLast?+(v25:Int)=cJ (ys++[(⟨cJ ys.getLast?+(v25:Int),bC xs ys.getLast? (cJ ys.getLast?+(v25:Int))+(v38:Int),bC xs ys.getLast? (cJ ys.getLast?+(v25:Int))+(v38:Int)+(v42:Int)⟩:aO)]).getLast? from by rw[fR];rfl]at hA;refine⟨v20-(j+1),by omega,j+1,ys++[(⟨cJ ys.getLast?+(v25:Int),bC xs ys.getLast? (cJ ys.getLast?+(v25:Int))+(v38:Int),bC xs ys.getLast? (cJ ys.getLast?+(v25:Int))+(v38:Int)+(v42:Int)⟩:aO)],A55,c55,at42,hA,((((((hS2.p 4).p 1).p 4).p 3).p 4).p 5).drop,by omega,by simp;omega,ha42,hq3,?_,rfl⟩;intro z hz
          rcases List.mem_append.1 hz with hz | hz
          ·exact hy0 z hz
          ·simp only[List.mem_singleton]at hz;subst hz;exact⟨by dsimp only;omega,by dsimp only;omega,by dsimp only;omega,by dsimp only;omega⟩
        ·refine .inr ⟨_,rfl,?_⟩;refine rE 6 hA ?_;clear hA a;intro a hA;refine de hA ?_;clear hS;have hS:=hS';clear hS';refine .inr ⟨oT hn8 hvec hn20 (dB (n:=v20-(j+1)) (by rw[hq2,show v20-j=(v20-(j+1))+1 from by omega]) (Fh hn25 hn38 hn42)),⟨older,rfl,ho⟩,at',er,hne,((((hS.p 1).drop.p 1).drop.p 1).drop.p 1).drop⟩
       ·refine .inr ⟨_,rfl,?_⟩;refine rE 6 hA ?_;clear hA a;intro a hA;refine de hA ?_;clear hS;have hS:=hS';clear hS';refine .inr ⟨oT hn8 hvec hn20 (dB (n:=v20-(j+1)) (by rw[hq2,show v20-j=(v20-(j+1))+1 from by omega]) (Fg hn25 hn38)),⟨older,rfl,ho⟩,at',er,hne,((((hS.p 1).drop.p 1).drop.p 1).drop.p 1).drop⟩
     ·refine .inr ⟨_,rfl,?_⟩;refine rE 6 hA ?_;clear hA a;intro a hA;refine de hA ?_;clear hS;have hS:=hS';clear hS';refine .inr ⟨oT hn8 hvec hn20 (dB (n:=v20-(j+1)) (by rw[hq2,show v20-j=(v20-(j+1))+1 from by omega]) (FZ hn25)),⟨older,rfl,ho⟩,at',er,hne,((((hS.p 1).drop.p 1).drop.p 1).drop.p 1).drop⟩
    ·intro h22;obtain rfl:j=v20:=by omega
     intro a hA;rw[Nat.sub_self]at hq2;have hcl:=qB hq2;refine rO 11 hA ?_;clear hA a;refine u1 0 (ad (cs:=[_,_]) rfl a6 aC (by exact (hS.p 1).ag (xs:=[_,_]) rfl)) ?_;refine uW (vs:=[_,_]) (cs':=[_,_]) rfl rfl aC (hS.p 4) ?_;clear hS;intro w hS;refine uO 3 ?_;intro a hA;refine gX hA rfl (dg (cs:=[_,_]) hA rfl a6 aC (by exact hS.ag (xs:=[_,_]) rfl)) ?_;refine .inl ⟨⟨Av,cv,Ac,cc,⟨xs,ys⟩⟩,at2,FM hn8 hvec hn20 hcl,hat2,by show ys.length≤_;omega,rfl,?_⟩;exact (hS.drop.p 1).drop
   ·refine .inr ⟨_,rfl,?_⟩;refine rE 2 hA ?_;clear hA a;intro a hA;refine de hA ?_;clear hS;have hS:=hS';clear hS';refine .inr ⟨?_,⟨older,rfl,ho⟩,at',er,hne,(((hS.p 1).drop.p 1).drop.p 1).drop⟩;rcases hn20 with h | ⟨k,rr,h,h2⟩
    ·exact FE hn8 hvec h
    ·exact oT hn8 hvec h (Ad hx0 h2)
 ·refine .inr ⟨_,rfl,?_⟩;refine rE 2 hA ?_;clear hA a;intro a hA;refine de hA ?_;clear hS;have hS:=hS';clear hS';exact .inr ⟨FD hn8,⟨older,rfl,ho⟩,at',er,hne,((hS.p 1).drop.p 1).drop⟩
end Go.Proofs.YtkjabaihpkbfhaaGreat.Wk
namespace Go.Proofs.YtkjabaihpkbfhaaGreat.Wk
open Go Go.RowKit Go.Proofs.YtkjabaihpkbfhaaGreat Go.Proofs.YtkjabaihpkbfhaaGreat.K
def jE (l:List UInt8):Option (List aV×List UInt8):=match bP 9223372036854775807 l with
 | none=>none
 | some (k,l1)=>ft mw k none l1
def jN (l:List UInt8):Option (List bW×List UInt8):=match bP 9223372036854775807 l with
 | none=>none
 | some (k,l1)=>ft sO k none l1
theorem wC {l r:List UInt8}{xs:List aV}:jE l=some (xs,r)↔l=cK xs++r∧jD oB none xs∧xs.length≤9223372036854775807:=by
 unfold jE cK;constructor
 ·
  intro h
  split at h
  ·
   cases h
  ·
   rename_i k l1 e1;obtain⟨rfl,h1,h2⟩:=bD.1 e1;obtain⟨rfl,h3,rfl⟩:=(x6.seq k none (fun q hq=>by cases hq) l1 xs r).1 h;exact⟨by rw[List.append_assoc];rfl,h3,h2⟩
 ·
  rintro ⟨rfl,h1,h2⟩;rw[List.append_assoc,bD.2 ⟨rfl,by omega,h2⟩];exact (x6.seq _ none (fun q hq=>by cases hq) _ xs r).2 ⟨rfl,h1,rfl⟩
theorem rn {l r:List UInt8}{xs:List bW}:jN l=some (xs,r)↔l=cj xs++r∧jD D1 none xs∧xs.length≤9223372036854775807:=by
 unfold jN cj;constructor
 ·
  intro h
  split at h
  ·
   cases h
  ·
   rename_i k l1 e1;obtain⟨rfl,h1,h2⟩:=bD.1 e1;obtain⟨rfl,h3,rfl⟩:=(xj.seq k none trivial l1 xs r).1 h;exact⟨by rw[List.append_assoc];rfl,h3,h2⟩
 ·
  rintro ⟨rfl,h1,h2⟩;rw[List.append_assoc,bD.2 ⟨rfl,by omega,h2⟩];exact (xj.seq _ none trivial _ xs r).2 ⟨rfl,h1,rfl⟩
theorem FP {s:ByteArray}(h:mv s=true):1≤s.data.toList.length:=by
 unfold mv Cc pZ at h
 split at h
 ·
  simp at h
 ·
  omega
theorem Dl {xs:List aV}(h:cd xs=true):xs.length * 5≤(seqB mM none xs).length:=by
 have:∀(l:List aV) (p:Option aV),(∀e∈l,fU e=true)→l.length * 5≤(seqB mM p l).length:=by
  intro l
  induction l with
  | nil=>intro p _;simp
  | cons x l ih =>
    intro p hp;have h1:=ih (some x) fun e he=>hp e (by simp[he])
    have h2:=hp x (by simp);unfold fU at h2;simp only[Bool.and_eq_true]at h2;have h3:=FP h2.1.1.2;have h4:=cE (x.rep-bB p).toNat;have h5:=cE (x.num-dK p x.rep).toNat;have h6:=cE x.cy.data.toList.length;have h7:=cE (x.p4-1).toNat;have h8:5≤(mM p x).length:=by unfold mM;simp only[List.length_append];omega
    rw[seqB,List.length_append,List.length_cons,Nat.add_mul];omega
 refine this xs none fun e he=>?_;obtain⟨i,hi⟩:=List.mem_iff_getElem?.1 he;have:=lC h i e hi;unfold eK at this;rw[Bool.and_eq_true]at this;exact this.1
theorem pL (p:aL):2+p.vec.length+3 * p.ab.length≤(cL p).length:=by
 unfold cL;have h1:=cE p.vec.length;have h2:=cE p.ab.length;have h3:=jI (g:=(ly 1000000000).g) (k:=1) (fun _ x=>cE x.toNat) p.vec none;have h4:=jI (g:=jB p.vec) (k:=3) (fun q x=>wO _ q x) p.ab none;simp only[List.length_append];omega
theorem DF {r:bW}(h:fx r=true)(p:Option bW):4≤(jd p r).length:=by
 have h1:=pL r.bF;have h2:=cE r.cy.data.toList.length
 have h3:1≤r.bF.vec.length+r.bF.ab.length:=by
  rcases Nat.eq_zero_or_pos (r.bF.vec.length+r.bF.ab.length) with h0 | h0
  ·
   have e1:r.bF.vec=[]:=List.eq_nil_of_length_eq_zero (by omega);have e2:r.bF.ab=[]:=List.eq_nil_of_length_eq_zero (by omega);have e3:r.bF=⟨[],[]⟩:=uV e1 e2;unfold fx at h;rw[e3,show eE ⟨[],[]⟩=true from by decide]at h;simp at h
  ·
   exact h0
 unfold jd;simp only[List.length_append];omega
theorem De {xs:List bW}(h:cz xs=true):xs.length * 4≤(seqB jd none xs).length:=by
 have:∀(l:List bW) (p:Option bW),(∀e∈l,fx e=true)→l.length * 4≤(seqB jd p l).length:=by
  intro l
  induction l with
  | nil=>intro p _;simp
  | cons x l ih =>
    intro p hp;have h1:=ih (some x) fun e he=>hp e (by simp[he])
    have h2:=DF (hp x (by simp)) p;rw[seqB,List.length_append,List.length_cons,Nat.add_mul];omega
 exact this xs none (gj h)
theorem zz (xs:List bW):cN (xs.map bW.bF)≤(cj xs).length:=by
 have:∀(l:List bW) (p:Option bW),cN (l.map bW.bF)≤(seqB jd p l).length:=by
  intro l
  induction l with
  | nil=>intro p;simp[cN]
  | cons x l ih =>
    intro p;have h1:=ih (some x);have h2:=pL x.bF;have h3:(cL x.bF).length≤(jd p x).length:=by unfold jd;simp only[List.length_append];omega
    have h6:cN ((x::l).map bW.bF)=x.bF.ab.length+1+cN (l.map bW.bF):=by unfold cN;simp
    rw[seqB,List.length_append,h6];omega
 unfold cj;rw[List.length_append];have:=this xs none;omega
theorem FT {l:List UInt8}(h:bP 9223372036854775807 l=none):jE l=none:=by unfold jE;rw[h]
theorem ic {l l1:List UInt8}{k:Nat}{o:Option (List aV×List UInt8)}(h:bP 9223372036854775807 l=some (k,l1))(h2:ft mw k none l1=o):jE l=o:=by unfold jE;rw[h];exact h2
theorem AU {l l1:List UInt8}{k:Nat}(h:bP 9223372036854775807 l=some (k,l1))(h2:l1.length<k * 5):∀xs r,jE l=some (xs,r)→cd xs=false:=fun xs r hx=>by
 rw[ic h rfl]at hx;obtain⟨rfl,_,rfl⟩:=(x6.seq k none (fun q hq=>by cases hq) l1 xs r).1 hx;rw[Bool.eq_false_iff];intro hb;have h3:xs.length * 5≤(seqB x6.g none xs).length:=Dl hb;rw[List.length_append]at h2;omega
theorem FR {l:List UInt8}(h:bP 9223372036854775807 l=none):jN l=none:=by unfold jN;rw[h]
theorem sR {l l1:List UInt8}{k:Nat}{o:Option (List bW×List UInt8)}(h:bP 9223372036854775807 l=some (k,l1))(h2:ft sO k none l1=o):jN l=o:=by unfold jN;rw[h];exact h2
theorem zS {l l1:List UInt8}{k:Nat}(h:bP 9223372036854775807 l=some (k,l1))(h2:l1.length<k * 4):∀xs r,jN l=some (xs,r)→cz xs=false:=fun xs r hx=>by
 rw[sR h rfl]at hx;obtain⟨rfl,_,rfl⟩:=(xj.seq k none trivial l1 xs r).1 hx;rw[Bool.eq_false_iff];intro hb;have h3:xs.length * 4≤(seqB xj.g none xs).length:=De hb;rw[List.length_append]at h2;omega
theorem eS {α β:Type}{o:Option (α×β)}{f:α→Bool}(h:o=none):∀xs r,o=some (xs,r)→f xs=false:=fun xs r hx=>by rw[h]at hx;cases hx
theorem HI {p:Option aV}{l:List UInt8}(h:bP 16 l=none):mw p l=none:=by unfold mw;rw[h]
theorem EG {p:Option aV}{l l1:List UInt8}{st:Nat}(h:bP 16 l=some (st,l1))(h2:bP 1000000000 l1=none):mw p l=none:=by unfold mw;rw[h];simp only;rw[h2]
theorem AY {p:Option aV}{l l1 l2:List UInt8}{st sk:Nat}(h:bP 16 l=some (st,l1))(h2:bP 1000000000 l1=some (sk,l2))(h3:16≤bB p+st∨1000000000<dK p (bB p+st)+sk):mw p l=none:=by unfold mw;rw[h];simp only;rw[h2];simp only;rw[if_pos h3]
theorem E2 {p:Option aV}{l l1 l2:List UInt8}{st sk:Nat}(h:bP 16 l=some (st,l1))(h2:bP 1000000000 l1=some (sk,l2))(h4:dh 24 l2=none):mw p l=none:=by
 unfold mw;rw[h];simp only;rw[h2];simp only
 split
 ·
  rfl
 ·
  rw[h4]
theorem EU {p:Option aV}{l l1 l2 l3 t:List UInt8}{st sk:Nat}(h:bP 16 l=some (st,l1))(h2:bP 1000000000 l1=some (sk,l2))(h4:dh 24 l2=some (t,l3))(h5:bP 1000000 l3=none):mw p l=none:=by
 unfold mw;rw[h];simp only;rw[h2];simp only
 split
 ·
  rfl
 ·
  rw[h4];simp only;rw[h5]
theorem DK {p:Option aV}{l l1 l2 l3 l4 t:List UInt8}{st sk q:Nat}(h:bP 16 l=some (st,l1))(h2:bP 1000000000 l1=some (sk,l2))(h3:¬(16≤bB p+st∨1000000000<dK p (bB p+st)+sk))(h4:dh 24 l2=some (t,l3))(h5:bP 1000000 l3=some (q,l4)):mw p l=some (⟨bB p+st,dK p (bB p+st)+sk,str t,q+1⟩,l4):=by
 unfold mw;rw[h];simp only;rw[h2];simp only;rw[if_neg h3,h4];simp only;rw[h5]
theorem Hi {p:Option aV}{st:Nat}(h:0<st):dK p (bB p+st)=1:=mF (by omega)
theorem HO {p:Option aV}{st:Nat}(h:¬(0:Int)<(st:Int)):dK p (bB p+st)=nV p:=lg (by omega)
theorem Et {xs:List aV}(h:∀e∈xs,0≤e.rep∧e.rep<16∧1≤e.num∧e.num≤1000000000):0≤bB xs.getLast?∧bB xs.getLast? < 16∧1≤nV xs.getLast?∧nV xs.getLast?≤1000000001:=by
 unfold bB nV;cases e:xs.getLast? with
 | none=>simp
 | some q=>have:=h q (List.mem_of_getLast? e);simp only;omega
theorem Hh {p:Option bW}{l:List UInt8}(h:dh 24 l=none):sO p l=none:=by unfold sO;rw[h]
theorem Hq {p:Option bW}{l l1 t:List UInt8}(h:dh 24 l=some (t,l1))(h2:fu l1=none):sO p l=none:=by unfold sO;rw[h];simp only;rw[h2]
theorem HM {p:Option bW}{l l1 l2 t:List UInt8}{q:aL}(h:dh 24 l=some (t,l1))(h2:fu l1=some (q,l2)):sO p l=some (⟨str t,q⟩,l2):=by unfold sO;rw[h];simp only;rw[h2]
end Go.Proofs.YtkjabaihpkbfhaaGreat.Wk
namespace Go.Proofs.YtkjabaihpkbfhaaGreat.Wk
open Go Go.RowKit Go.Proofs.YtkjabaihpkbfhaaGreat Go.Proofs.YtkjabaihpkbfhaaGreat.K Go.Proofs.YtkjabaihpkbfhaaGreat.T
theorem r4 (W w:World)(L:List As)(r:Nat)(A:Option Addr)(c:Nat)(bs:List UInt8)(at_:Nat)(hS:Sat W w (gY r A c bs at_ true 0::L))(hat:at_≤bs.length)(hb:bs.length≤1000000000000)(hR:∀w,Sat W w L→Rd w 1 (.slice A bs.length c) bs.length (bs.map an)):Calls Tryz.prog 381 #[.pointer (some ⟨r,0,none⟩)] w fun e w'=>(∃(Ae:Option Addr) (ce:Nat) (xs:List aV) (at':Nat),jE (bs.drop at_)=some (xs,bs.drop at')∧at'≤bs.length∧xs.length * 5≤bs.length∧e=.returned (.slice Ae (xs).length ce)∧Sat W w' (gY r A c bs (at':Int) true 0::iY 216 Ae ce xs::L))∨((∀xs rr,jE (bs.drop at_)=some (xs,rr)→cd xs=false)∧xS (.iface 271 (.agg #[.pointer (some ⟨r,0,none⟩)])) e∧∃at' er:Int,er≠0∧Sat W w' (gY r A c bs at' true er::L)):=by
 refine enter Tryz.func381 rfl rfl rfl (.cons (i:=0) rfl .nil) ?_;refine uC 20 ?_;intro a hA;refine dY hA rfl yB rfl (hZ _ _ _ r A c bs at_ 5 hS (by omega) (by omega) hR (by decide) (by decide)) ?_;rintro e w (⟨v10,at10,hn10,ha10,hk10,rfl,hS'⟩ | ⟨hn10,⟨older,rfl,ho⟩,at',er,hne,hS'⟩)
 ·clear hS;have hS:=hS';clear hS';rw[show (5:Int).toNat=5 from rfl]at hk10;refine .inl ⟨_,rfl,?_⟩;clear hA a;refine uO 4 ?_;intro a hA;refine wp_loop_ghost (fun (mm:Nat) a w=>∃(i:Nat) (xs:List aV) (Ae:Option Addr) (ce at1:Nat),Ag a 52 [(0,.pointer (some ⟨r,0,none⟩)),(3,.slice Ae (xs).length ce),(4,.int .i64 ((bB xs.getLast?))),(5,.int .i64 ((nV xs.getLast?))),(10,.int .i64 ((v10:Nat):Int)),(11,.int .i64 ((i:Nat):Int))]∧Sat W w (gY r A c bs (at1:Int) true 0::iY 216 Ae ce xs::L)∧(i≤v10)∧(xs.length=i)∧(at1≤bs.length)∧(ft mw v10 none (bs.drop at10)=(ft mw (v10-i) xs.getLast? (bs.drop at1)).map fun q=>(xs++q.1,q.2))∧(∀e∈xs,0≤e.rep∧e.rep<16∧1≤e.num∧e.num≤1000000000)∧mm=v10-i) v10 ?_ ?_
  ·replace hA:=hA.kp [0,3,4,5,10,11] rfl;exact⟨0,[],none,0,at10,hA,((hS.aY 216 4).p 1),(by omega),(by rfl),(by omega),(by exact nq),(by intro v hv;cases hv),by omega⟩
  intro m a w hI;clear hS hA;obtain⟨i,xs,Ae,ce,at1,hA,hS,hi,hxl,hat1,hq,hx0,rfl⟩:=hI;refine rC 2 hA ?_;clear hA a;refine aR 0 0 (aw rfl rfl) ?_ ?_
  ·intro h12;obtain⟨hp0,hp1,hp2,hp3⟩:=Et hx0;refine uO 11 ?_;intro a hA;refine dY hA rfl gP rfl (cf _ _ _ r A c bs at1 16 hS (by omega) (by omega) (fun w s=>hR w s.drop)) ?_;rintro e w (⟨v14,at14,hn14,ha14,hv14,hw14,rfl,hS'⟩ | ⟨hn14,⟨older,rfl,ho⟩,at',er,hne,hS'⟩)
   ·clear hS;have hS:=hS';clear hS';refine .inl ⟨_,rfl,?_⟩;clear hA a;refine uO 7 ?_;refine aR 0 0 (dv rfl rfl) ?_ ?_
    ·intro h16;have hnx:dK xs.getLast? (bB xs.getLast?+(v14:Int))=1:=Hi (by omega);refine uO 6 ?_;refine u1 9 (ah rfl rfl (by omega) (by omega)) ?_;intro a hA;refine dY hA rfl gP rfl (cf _ _ _ r A c bs at14 1000000000 hS (by omega) (by omega) (fun w s=>hR w s.drop)) ?_;rintro e w (⟨v23,at23,hn23,ha23,hv23,hw23,rfl,hS'⟩ | ⟨hn23,⟨older,rfl,ho⟩,at',er,hne,hS'⟩)
     ·clear hS;have hS:=hS';clear hS';refine .inl ⟨_,rfl,?_⟩;clear hA a;refine u1 0 (ah rfl rfl (by omega) (by omega)) ?_;intro a hA;refine o1 0 hA (aP hA rfl wq) ?_;clear hA a;refine uN BU hS ?_;clear hS;intro b7 w hS;refine uW (vs:=[_,_]) (cs':=[_,_]) rfl rfl dZ hS ?_;clear hS;intro w hS;refine uO 5 ?_;refine u1 0 (aa rfl bw) ?_;refine u1 0 (ld rfl aQ) ?_;refine aR 0 0 (eo rfl rfl) ?_ ?_
      ·intro h28;refine uO 10 ?_;intro a hA;refine dY hA rfl lI rfl (cU _ _ _ r A c bs at23 8 (hS.p 1) (by omega) (by omega) (fun w s=>hR w s.drop.drop)) ?_;rintro e w ⟨⟨older,rfl,ho⟩,at',hS'⟩
       ·refine .inr ⟨_,rfl,?_⟩;refine rE 6 hA ?_;clear hA a;intro a hA;refine de hA ?_;clear hS;have hS:=hS';clear hS';refine .inr ⟨eS (ic hn10 (dB (n:=v10-(i+1)) (by rw[hq,show v10-i=(v10-(i+1))+1 from by omega]) (AY hn14 hn23 (by rw[hnx];omega)))),⟨older,rfl,ho⟩,at',8,by decide,((hS.p 1).drop.p 1).drop⟩
      ·intro h28;refine uO 1 ?_;refine u1 0 (aa rfl bQ) ?_;refine u1 0 (ld rfl aQ) ?_;refine aR 0 0 (dv rfl rfl) ?_ ?_
       ·intro h32;refine uO 6 ?_;intro a hA;refine dY hA rfl lI rfl (cU _ _ _ r A c bs at23 8 (hS.p 1) (by omega) (by omega) (fun w s=>hR w s.drop.drop)) ?_;rintro e w ⟨⟨older,rfl,ho⟩,at',hS'⟩
        ·refine .inr ⟨_,rfl,?_⟩;refine rE 6 hA ?_;clear hA a;intro a hA;refine de hA ?_;clear hS;have hS:=hS';clear hS';refine .inr ⟨eS (ic hn10 (dB (n:=v10-(i+1)) (by rw[hq,show v10-i=(v10-(i+1))+1 from by omega]) (AY hn14 hn23 (by rw[hnx];omega)))),⟨older,rfl,ho⟩,at',8,by decide,((hS.p 1).drop.p 1).drop⟩
       ·intro h32;refine uO 9 ?_;intro a hA;refine dY hA rfl D5 rfl (mY _ _ _ r A c bs at23 24 (hS.p 1) (by omega) (by omega) (fun w s=>hR w s.drop.drop)) ?_;rintro e w (⟨s37,at37,hn37,ha37,rfl,hS'⟩ | ⟨hn37,⟨older,rfl,ho⟩,at',er,hne,hS'⟩)
        ·clear hS;have hS:=hS';clear hS';refine .inl ⟨_,rfl,?_⟩;clear hA a;refine uO 4 ?_;intro a hA;refine jh [8] (lr W (a8 b7 (.cells #[.int .i64 (bB xs.getLast?+(v14:Int)),.int .i64 (1+(v23:Int))] 214)::iY 216 Ae ce xs::L)) (by kernel_rfl) ?_;replace hS:=hS.drew;refine rX [0] hA ?_;clear hA a;refine cT 1 [2,3] rfl (by exact⟨[_],hS⟩) (fun w hT=>have hS:=hT.sat;(ad (cs:=[_,_]) rfl gk dZ (by exact hS.ag (xs:=[_,_]) rfl))) ?_;intro a hA;refine aG 4 (by kernel_rfl) ?_;refine Gl hA rfl rfl gP rfl (cf _ _ _ r A c bs at37 1000000 hS (by omega) (by omega) (fun w s=>hR w s.drop.drop)) ?_;rintro e w (⟨v42,at42,hn42,ha42,hv42,hw42,rfl,hS'⟩ | ⟨hn42,⟨older,rfl,ho⟩,at',er,hne,hS'⟩)
         rotate_left 1
         ·refine .inr ⟨_,rfl,?_⟩;refine rE 6 hA ?_;clear hA a;intro a hA;refine de hA ?_;clear hS;have hS:=hS';clear hS';refine .inr ⟨eS (ic hn10 (dB (n:=v10-(i+1)) (by rw[hq,show v10-i=(v10-(i+1))+1 from by omega]) (EU hn14 hn23 hn37 hn42))),⟨older,rfl,ho⟩,at',er,hne,((hS.p 1).drop.p 1).drop⟩
         clear hS;have hS:=hS';clear hS';refine .inl ⟨_,rfl,?_⟩;clear hA a;intro a hA;refine⟨.inr fun _=>(by exact⟨[_],hS⟩),?_⟩;refine P1 5 [] hA rfl (fun w=>(ah (hA.ev rfl) (hA.ev rfl) (by omega) (by omega))) ?_;clear hA a;intro a hA;refine P1 6 [] hA rfl (fun w=>(aP hA rfl sC)) ?_;clear hA a;intro a hA;refine aG 7 (by kernel_rfl) ?_;refine vI (vss:=[[_,_,_,_]]) hA rfl rfl rfl bA i7 rfl rfl rfl (by simp) rfl hS ?_;clear hA a hS;intro A45 w hS;intro a hA;refine⟨.inr fun _=>(by exact⟨[_,_],hS⟩),?_⟩;refine aG 8 (by kernel_rfl) ?_
         first | refine eA hA rfl rfl rfl rfl bA i7 rfl hS (by exact hS.rd.src bA (by simp[Value.oneCell'])) (by omega) (by omega) ?_ | refine eA hA rfl rfl rfl rfl bA i7 rfl (hS.p 1) (by exact hS.rd.src bA (by simp[Value.oneCell'])) (by omega) (by omega) ?_ | refine eA hA rfl rfl rfl rfl bA i7 rfl (hS.p 2) (by exact hS.rd.src bA (by simp[Value.oneCell'])) (by omega) (by omega) ?_ | refine eA hA rfl rfl rfl rfl bA i7 rfl (hS.p 3) (by exact hS.rd.src bA (by simp[Value.oneCell'])) (by omega) (by omega) ?_ | refine eA hA rfl rfl rfl rfl bA i7 rfl (hS.p 4) (by first | exact hS.rd.src bA (by simp[Value.oneCell']) | exact (hS.p 1).rd.src bA (by simp[Value.oneCell']) | exact (hS.p 2).rd.src bA (by simp[Value.oneCell']) | exact (hS.p 3).rd.src bA (by simp[Value.oneCell']) | exact (hS.p 4).rd.src bA (by simp[Value.oneCell']) | exact (hS.p 5).rd.src bA (by simp[Value.oneCell']) | exact (hS.p 6).rd.src bA (by simp[Value.oneCell'])) (by omega) (by omega) ?_ | refine eA hA rfl rfl rfl rfl bA i7 rfl (hS.p 5) (by first | exact hS.rd.src bA (by simp[Value.oneCell']) | exact (hS.p 1).rd.src bA (by simp[Value.oneCell']) | exact (hS.p 2).rd.src bA (by simp[Value.oneCell']) | exact (hS.p 3).rd.src bA (by simp[Value.oneCell']) | exact (hS.p 4).rd.src bA (by simp[Value.oneCell']) | exact (hS.p 5).rd.src bA (by simp[Value.oneCell']) | exact (hS.p 6).rd.src bA (by simp[Value.oneCell'])) (by omega) (by omega) ?_ | refine eA hA rfl rfl rfl rfl bA i7 rfl (hS.p 6) (by first | exact hS.rd.src bA (by simp[Value.oneCell']) | exact (hS.p 1).rd.src bA (by simp[Value.oneCell']) | exact (hS.p 2).rd.src bA (by simp[Value.oneCell']) | exact (hS.p 3).rd.src bA (by simp[Value.oneCell']) | exact (hS.p 4).rd.src bA (by simp[Value.oneCell']) | exact (hS.p 5).rd.src bA (by simp[Value.oneCell']) | exact (hS.p 6).rd.src bA (by simp[Value.oneCell'])) (by omega) (by omega) ?_
         clear hA a hS;intro A46 c46 w hc46 hS;intro a hA;refine⟨.inl rfl,?_⟩;refine rX [9] hA ?_;clear hA a;intro a hA;refine ak (by kernel_rfl) ?_ _;refine rE 2 hA ?_;clear hA a;refine u1 0 (aa rfl bQ) ?_;refine u1 0 (ld rfl aQ) ?_;refine u1 5 (ah rfl rfl (by omega) (by omega)) ?_;refine u1 2 (ah rfl rfl (by omega) (by omega)) ?_;intro a hA;replace hA:=hA.kp [0,3,4,5,10,11] rfl;rw[show v10-i=(v10-(i+1))+1 from (by omega)]at hq
         have he:mw xs.getLast? (bs.drop at1)=some ((⟨bB xs.getLast?+(v14:Int),1+(v23:Int),str s37,(v42:Int)+1⟩:aV),bs.drop at42):=by
          rw[DK hn14 hn23 (by rw[hnx];omega) hn37 hn42,hnx]
         have hq2:=my hq he;rw[←fR xs (⟨bB xs.getLast?+(v14:Int),1+(v23:Int),str s37,(v42:Int)+1⟩:aV)]at hq2;have el:xs.length+1=(xs++[(⟨bB xs.getLast?+(v14:Int),1+(v23:Int),str s37,(v42:Int)+1⟩:aV)]).length:=by simp
         have hS2:=iH hS el (cs':=(xs++[(⟨bB xs.getLast?+(v14:Int),1+(v23:Int),str s37,(v42:Int)+1⟩:aV)]).flatMap mC) (by rw[List.flatMap_append];rfl);have ea:bB xs.getLast?+(v14:Int)=bB (xs++[(⟨bB xs.getLast?+(v14:Int),1+(v23:Int),str s37,(v42:Int)+1⟩:aV)]).getLast?:=by rw[fR];rfl
         have eb:1+(v23:Int)+1=nV (xs++[(⟨bB xs.getLast?+(v14:Int),1+(v23:Int),str s37,(v42:Int)+1⟩:aV)]).getLast?:=by rw[fR];rfl
         rw[ea,eb]at hA;rw[el]at hA;refine⟨v10-(i+1),by omega,i+1,xs++[(⟨bB xs.getLast?+(v14:Int),1+(v23:Int),str s37,(v42:Int)+1⟩:aV)],A46,c46,at42,hA,(((hS2.p 2).p 3).p 3).drop.drop,by omega,by simp;omega,ha42,hq2,?_,rfl⟩;intro z hz;rcases List.mem_append.1 hz with hz | hz
         ·exact hx0 z hz
         ·simp only[List.mem_singleton]at hz;subst hz;exact⟨by dsimp only;omega,by dsimp only;omega,by dsimp only;omega,by dsimp only;omega⟩
        ·refine .inr ⟨_,rfl,?_⟩;refine rE 6 hA ?_;clear hA a;intro a hA;refine de hA ?_;clear hS;have hS:=hS';clear hS';refine .inr ⟨eS (ic hn10 (dB (n:=v10-(i+1)) (by rw[hq,show v10-i=(v10-(i+1))+1 from by omega]) (E2 hn14 hn23 hn37))),⟨older,rfl,ho⟩,at',er,hne,((hS.p 1).drop.p 1).drop⟩
     ·refine .inr ⟨_,rfl,?_⟩;refine rE 6 hA ?_;clear hA a;intro a hA;refine de hA ?_;clear hS;have hS:=hS';clear hS';refine .inr ⟨eS (ic hn10 (dB (n:=v10-(i+1)) (by rw[hq,show v10-i=(v10-(i+1))+1 from by omega]) (EG hn14 hn23))),⟨older,rfl,ho⟩,at',er,hne,(hS.p 1).drop⟩
    ·intro h16;have hnx:dK xs.getLast? (bB xs.getLast?+(v14:Int))=nV xs.getLast?:=HO h16;refine uO 10 ?_;intro a hA;refine dY hA rfl gP rfl (cf _ _ _ r A c bs at14 1000000000 hS (by omega) (by omega) (fun w s=>hR w s.drop)) ?_;rintro e w (⟨v23,at23,hn23,ha23,hv23,hw23,rfl,hS'⟩ | ⟨hn23,⟨older,rfl,ho⟩,at',er,hne,hS'⟩)
     ·clear hS;have hS:=hS';clear hS';refine .inl ⟨_,rfl,?_⟩;clear hA a;refine u1 0 (ah rfl rfl (by omega) (by omega)) ?_;intro a hA;refine o1 0 hA (aP hA rfl wq) ?_;clear hA a;refine uN BU hS ?_;clear hS;intro b7 w hS;refine uW (vs:=[_,_]) (cs':=[_,_]) rfl rfl dZ hS ?_;clear hS;intro w hS;refine uO 5 ?_;refine u1 0 (aa rfl bw) ?_;refine u1 0 (ld rfl aQ) ?_;refine aR 0 0 (eo rfl rfl) ?_ ?_
      ·intro h28;intro a hA;exfalso;omega
      ·intro h28;refine uO 1 ?_;refine u1 0 (aa rfl bQ) ?_;refine u1 0 (ld rfl aQ) ?_;refine aR 0 0 (dv rfl rfl) ?_ ?_
       ·intro h32;refine uO 6 ?_;intro a hA;refine dY hA rfl lI rfl (cU _ _ _ r A c bs at23 8 (hS.p 1) (by omega) (by omega) (fun w s=>hR w s.drop.drop)) ?_;rintro e w ⟨⟨older,rfl,ho⟩,at',hS'⟩
        ·refine .inr ⟨_,rfl,?_⟩;refine rE 6 hA ?_;clear hA a;intro a hA;refine de hA ?_;clear hS;have hS:=hS';clear hS';refine .inr ⟨eS (ic hn10 (dB (n:=v10-(i+1)) (by rw[hq,show v10-i=(v10-(i+1))+1 from by omega]) (AY hn14 hn23 (by rw[hnx];omega)))),⟨older,rfl,ho⟩,at',8,by decide,((hS.p 1).drop.p 1).drop⟩
       ·intro h32;refine uO 9 ?_;intro a hA;refine dY hA rfl D5 rfl (mY _ _ _ r A c bs at23 24 (hS.p 1) (by omega) (by omega) (fun w s=>hR w s.drop.drop)) ?_;rintro e w (⟨s37,at37,hn37,ha37,rfl,hS'⟩ | ⟨hn37,⟨older,rfl,ho⟩,at',er,hne,hS'⟩)
        ·clear hS;have hS:=hS';clear hS';refine .inl ⟨_,rfl,?_⟩;clear hA a;refine uO 4 ?_;intro a hA;refine jh [8] (lr W (a8 b7 (.cells #[.int .i64 (bB xs.getLast?),.int .i64 (nV xs.getLast?+(v23:Int))] 214)::iY 216 Ae ce xs::L)) (by kernel_rfl) ?_;replace hS:=hS.drew;refine rX [0] hA ?_;clear hA a;refine cT 1 [2,3] rfl (by exact⟨[_],hS⟩) (fun w hT=>have hS:=hT.sat;(ad (cs:=[_,_]) rfl gk dZ (by exact hS.ag (xs:=[_,_]) rfl))) ?_;intro a hA;refine aG 4 (by kernel_rfl) ?_;refine Gl hA rfl rfl gP rfl (cf _ _ _ r A c bs at37 1000000 hS (by omega) (by omega) (fun w s=>hR w s.drop.drop)) ?_;rintro e w (⟨v42,at42,hn42,ha42,hv42,hw42,rfl,hS'⟩ | ⟨hn42,⟨older,rfl,ho⟩,at',er,hne,hS'⟩)
         rotate_left 1
         ·refine .inr ⟨_,rfl,?_⟩;refine rE 6 hA ?_;clear hA a;intro a hA;refine de hA ?_;clear hS;have hS:=hS';clear hS';refine .inr ⟨eS (ic hn10 (dB (n:=v10-(i+1)) (by rw[hq,show v10-i=(v10-(i+1))+1 from by omega]) (EU hn14 hn23 hn37 hn42))),⟨older,rfl,ho⟩,at',er,hne,((hS.p 1).drop.p 1).drop⟩
         clear hS;have hS:=hS';clear hS';refine .inl ⟨_,rfl,?_⟩;clear hA a;intro a hA;refine⟨.inr fun _=>(by exact⟨[_],hS⟩),?_⟩;refine P1 5 [] hA rfl (fun w=>(ah (hA.ev rfl) (hA.ev rfl) (by omega) (by omega))) ?_;clear hA a;intro a hA;refine P1 6 [] hA rfl (fun w=>(aP hA rfl sC)) ?_;clear hA a;intro a hA;refine aG 7 (by kernel_rfl) ?_;refine vI (vss:=[[_,_,_,_]]) hA rfl rfl rfl bA i7 rfl rfl rfl (by simp) rfl hS ?_;clear hA a hS;intro A45 w hS;intro a hA;refine⟨.inr fun _=>(by exact⟨[_,_],hS⟩),?_⟩;refine aG 8 (by kernel_rfl) ?_
         first | refine eA hA rfl rfl rfl rfl bA i7 rfl hS (by exact hS.rd.src bA (by simp[Value.oneCell'])) (by omega) (by omega) ?_ | refine eA hA rfl rfl rfl rfl bA i7 rfl (hS.p 1) (by exact hS.rd.src bA (by simp[Value.oneCell'])) (by omega) (by omega) ?_ | refine eA hA rfl rfl rfl rfl bA i7 rfl (hS.p 2) (by exact hS.rd.src bA (by simp[Value.oneCell'])) (by omega) (by omega) ?_ | refine eA hA rfl rfl rfl rfl bA i7 rfl (hS.p 3) (by exact hS.rd.src bA (by simp[Value.oneCell'])) (by omega) (by omega) ?_ | refine eA hA rfl rfl rfl rfl bA i7 rfl (hS.p 4) (by first | exact hS.rd.src bA (by simp[Value.oneCell']) | exact (hS.p 1).rd.src bA (by simp[Value.oneCell']) | exact (hS.p 2).rd.src bA (by simp[Value.oneCell']) | exact (hS.p 3).rd.src bA (by simp[Value.oneCell']) | exact (hS.p 4).rd.src bA (by simp[Value.oneCell']) | exact (hS.p 5).rd.src bA (by simp[Value.oneCell']) | exact (hS.p 6).rd.src bA (by simp[Value.oneCell'])) (by omega) (by omega) ?_ | refine eA hA rfl rfl rfl rfl bA i7 rfl (hS.p 5) (by first | exact hS.rd.src bA (by simp[Value.oneCell']) | exact (hS.p 1).rd.src bA (by simp[Value.oneCell']) | exact (hS.p 2).rd.src bA (by simp[Value.oneCell']) | exact (hS.p 3).rd.src bA (by simp[Value.oneCell']) | exact (hS.p 4).rd.src bA (by simp[Value.oneCell']) | exact (hS.p 5).rd.src bA (by simp[Value.oneCell']) | exact (hS.p 6).rd.src bA (by simp[Value.oneCell'])) (by omega) (by omega) ?_ | refine eA hA rfl rfl rfl rfl bA i7 rfl (hS.p 6) (by first | exact hS.rd.src bA (by simp[Value.oneCell']) | exact (hS.p 1).rd.src bA (by simp[Value.oneCell']) | exact (hS.p 2).rd.src bA (by simp[Value.oneCell']) | exact (hS.p 3).rd.src bA (by simp[Value.oneCell']) | exact (hS.p 4).rd.src bA (by simp[Value.oneCell']) | exact (hS.p 5).rd.src bA (by simp[Value.oneCell']) | exact (hS.p 6).rd.src bA (by simp[Value.oneCell'])) (by omega) (by omega) ?_
         clear hA a hS;intro A46 c46 w hc46 hS;intro a hA;refine⟨.inl rfl,?_⟩;refine rX [9] hA ?_;clear hA a;intro a hA;refine ak (by kernel_rfl) ?_ _;refine rE 2 hA ?_;clear hA a;refine u1 0 (aa rfl bQ) ?_;refine u1 0 (ld rfl aQ) ?_;refine u1 5 (ah rfl rfl (by omega) (by omega)) ?_;refine u1 2 (ah rfl rfl (by omega) (by omega)) ?_;intro a hA;replace hA:=hA.kp [0,3,4,5,10,11] rfl;rw[show v10-i=(v10-(i+1))+1 from (by omega)]at hq
         have he:mw xs.getLast? (bs.drop at1)=some ((⟨bB xs.getLast?,nV xs.getLast?+(v23:Int),str s37,(v42:Int)+1⟩:aV),bs.drop at42):=by
          rw[DK hn14 hn23 (by rw[hnx];omega) hn37 hn42,hnx];rw[show bB xs.getLast?+(v14:Int)=bB xs.getLast? from by omega]
         have hq2:=my hq he;rw[←fR xs (⟨bB xs.getLast?,nV xs.getLast?+(v23:Int),str s37,(v42:Int)+1⟩:aV)]at hq2;have el:xs.length+1=(xs++[(⟨bB xs.getLast?,nV xs.getLast?+(v23:Int),str s37,(v42:Int)+1⟩:aV)]).length:=by simp
         have hS2:=iH hS el (cs':=(xs++[(⟨bB xs.getLast?,nV xs.getLast?+(v23:Int),str s37,(v42:Int)+1⟩:aV)]).flatMap mC) (by rw[List.flatMap_append];rfl);have ea:bB xs.getLast?=bB (xs++[(⟨bB xs.getLast?,nV xs.getLast?+(v23:Int),str s37,(v42:Int)+1⟩:aV)]).getLast?:=by rw[fR];rfl
         have eb:nV xs.getLast?+(v23:Int)+1=nV (xs++[(⟨bB xs.getLast?,nV xs.getLast?+(v23:Int),str s37,(v42:Int)+1⟩:aV)]).getLast?:=by rw[fR];rfl
         rw[ea,eb]at hA;rw[el]at hA;refine⟨v10-(i+1),by omega,i+1,xs++[(⟨bB xs.getLast?,nV xs.getLast?+(v23:Int),str s37,(v42:Int)+1⟩:aV)],A46,c46,at42,hA,(((hS2.p 2).p 3).p 3).drop.drop,by omega,by simp;omega,ha42,hq2,?_,rfl⟩;intro z hz;rcases List.mem_append.1 hz with hz | hz
         ·exact hx0 z hz
         ·simp only[List.mem_singleton]at hz;subst hz;exact⟨by dsimp only;omega,by dsimp only;omega,by dsimp only;omega,by dsimp only;omega⟩
        ·refine .inr ⟨_,rfl,?_⟩;refine rE 6 hA ?_;clear hA a;intro a hA;refine de hA ?_;clear hS;have hS:=hS';clear hS';refine .inr ⟨eS (ic hn10 (dB (n:=v10-(i+1)) (by rw[hq,show v10-i=(v10-(i+1))+1 from by omega]) (E2 hn14 hn23 hn37))),⟨older,rfl,ho⟩,at',er,hne,((hS.p 1).drop.p 1).drop⟩
     ·refine .inr ⟨_,rfl,?_⟩;refine rE 6 hA ?_;clear hA a;intro a hA;refine de hA ?_;clear hS;have hS:=hS';clear hS';refine .inr ⟨eS (ic hn10 (dB (n:=v10-(i+1)) (by rw[hq,show v10-i=(v10-(i+1))+1 from by omega]) (EG hn14 hn23))),⟨older,rfl,ho⟩,at',er,hne,(hS.p 1).drop⟩
   ·refine .inr ⟨_,rfl,?_⟩;refine rE 6 hA ?_;clear hA a;intro a hA;refine de hA ?_;clear hS;have hS:=hS';clear hS';refine .inr ⟨eS (ic hn10 (dB (n:=v10-(i+1)) (by rw[hq,show v10-i=(v10-(i+1))+1 from by omega]) (HI hn14))),⟨older,rfl,ho⟩,at',er,hne,(hS.p 1).drop⟩
  ·intro h12;obtain rfl:i=v10:=by omega
   intro a hA;rw[Nat.sub_self]at hq;have hend:=qB hq;refine rO 15 hA ?_;clear hA a;intro a hA;replace hA:=hA.kp [2] rfl;refine rC 1 hA ?_;clear hA a;refine aX ?_;exact .inl ⟨Ae,ce,xs,at1,ic hn10 hend,hat1,by omega,rfl,hS⟩
 ·refine .inr ⟨_,rfl,?_⟩;refine rE 2 hA ?_;clear hA a;intro a hA;refine de hA ?_;clear hS;have hS:=hS';clear hS';refine .inr ⟨?_,⟨older,rfl,ho⟩,at',er,hne,hS⟩;rcases hn10 with h | ⟨k,rr,h,h2⟩
  ·exact eS (FT h)
  ·exact AU h h2
theorem rY (W w:World)(L:List As)(r:Nat)(A:Option Addr)(c:Nat)(bs:List UInt8)(at_:Nat)(hS:Sat W w (gY r A c bs at_ true 0::L))(hat:at_≤bs.length)(hb:bs.length≤1000000000000)(hR:∀w,Sat W w L→Rd w 1 (.slice A bs.length c) bs.length (bs.map an)):Calls Tryz.prog 385 #[.pointer (some ⟨r,0,none⟩)] w fun e w'=>(∃(R:jq) (at':Nat),jN (bs.drop at_)=some (R.d,bs.drop at')∧at'≤bs.length∧R.rs.length≤bs.length∧(∀x∈R.rs,x.p.d.vec.length≤16∧x.p.d.ab.length≤bs.length)∧e=.returned (.slice R.a R.rs.length R.c)∧Sat W w' (gY r A c bs (at':Int) true 0::R.ch 206 3 219::L))∨((∀xs rr,jN (bs.drop at_)=some (xs,rr)→cz xs=false)∧xS (.iface 271 (.agg #[.pointer (some ⟨r,0,none⟩)])) e∧∃at' er:Int,er≠0∧Sat W w' (gY r A c bs at' true er::L)):=by
 refine enter Tryz.func385 rfl rfl rfl (.cons (i:=0) rfl .nil) ?_;refine uC 14 ?_;intro a hA;refine dY hA rfl yB rfl (hZ _ _ _ r A c bs at_ 4 hS (by omega) (by omega) hR (by decide) (by decide)) ?_;rintro e w (⟨v6,at6,hn6,ha6,hk6,rfl,hS'⟩ | ⟨hn6,⟨older,rfl,ho⟩,at',er,hne,hS'⟩)
 ·clear hS;have hS:=hS';clear hS';rw[show (4:Int).toNat=4 from rfl]at hk6;refine .inl ⟨_,rfl,?_⟩;clear hA a;refine uO 4 ?_;intro a hA;refine wp_loop_ghost (fun (mm:Nat) a w=>∃(i:Nat) (rs:List RL) (Ar:Option Addr) (cr at1:Nat),Ag a 20 [(0,.pointer (some ⟨r,0,none⟩)),(3,.slice Ar (rs).length cr),(6,.int .i64 ((v6:Nat):Int)),(7,.int .i64 ((i:Nat):Int))]∧Sat W w (gY r A c bs (at1:Int) true 0::ss 206 Ar cr rs::gm 3 219 rs::L)∧(i≤v6)∧(rs.length=i)∧(at1≤bs.length)∧(ft sO v6 none (bs.drop at6)=(ft sO (v6-i) (rs.map RL.d).getLast? (bs.drop at1)).map fun q=>((rs.map RL.d)++q.1,q.2))∧(∀x∈rs,x.p.d.vec.length≤16∧x.p.d.ab.length≤bs.length)∧mm=v6-i) v6 ?_ ?_
  ·replace hA:=hA.kp [0,3,6,7] rfl;exact⟨0,[],none,0,at6,hA,((hS.kZ.aY 206 3).p 2),(by omega),(by rfl),(by omega),(by exact nq),(by intro v hv;cases hv),by omega⟩
  intro m a w hI;clear hS hA;obtain⟨i,rs,Ar,cr,at1,hA,hS,hi,hrl,hat1,hq,hsm,rfl⟩:=hI;refine rC 2 hA ?_;clear hA a;refine aR 0 0 (aw rfl rfl) ?_ ?_
  ·intro h8;refine uO 11 ?_;intro a hA;refine dY hA rfl D5 rfl (mY _ _ _ r A c bs at1 24 hS (by omega) (by omega) (fun w s=>hR w s.drop.drop)) ?_;rintro e w (⟨s10,at10,hn10,ha10,rfl,hS'⟩ | ⟨hn10,⟨older,rfl,ho⟩,at',er,hne,hS'⟩)
   ·clear hS;have hS:=hS';clear hS';refine .inl ⟨_,rfl,?_⟩;clear hA a;refine uO 7 ?_;intro a hA;refine dY hA rfl Gc rfl (ph _ _ _ r A c bs at10 hS (by omega) hb (fun w s=>hR w s.drop.drop)) ?_;rintro e w (⟨q,at14,hn14,ha14,hqc,rfl,hS'⟩ | ⟨hn14,⟨older,rfl,ho⟩,at',er,hne,hS'⟩)
    ·clear hS;have hS:=hS';clear hS';refine .inl ⟨_,rfl,?_⟩;clear hA a;intro a hA;refine o1 0 hA (aP hA rfl kH) ?_;clear hA a;intro a hA;refine ji (vss:=[[_,_,_]]) hA rfl rfl db nB rfl rfl rfl (by simp) rfl hS ?_;clear hA a hS;intro A16 w hS;intro a hA;refine dy hA rfl rfl rfl db nB rfl (hS.p 4) (hS.rd.src db (by simp[Value.oneCell'])) (by omega) (by omega) ?_;clear hA a hS;intro A17 c17 w hc17 hS;refine uO 5 ?_;refine u1 2 (ah rfl rfl (by omega) (by omega)) ?_;intro a hA;replace hA:=hA.kp [0,3,6,7] rfl;rw[show v6-i=(v6-(i+1))+1 from (by omega)]at hq;have hq2:=my hq (HM hn10 hn14);have em:rs.map RL.d++[(⟨str s10,q.d⟩:bW)]=(rs++[(⟨str s10,q⟩:RL)]).map RL.d:=by rw[List.map_append];rfl
     have eg:some (⟨str s10,q.d⟩:bW)=((rs++[(⟨str s10,q⟩:RL)]).map RL.d).getLast?:=by rw[←em,fR]
     rw[em,eg]at hq2;have el:rs.length+1=(rs++[(⟨str s10,q⟩:RL)]).length:=by simp
     have hS2:=iH hS el (cs':=(rs++[(⟨str s10,q⟩:RL)]).flatMap iX) (by rw[List.flatMap_append];rfl);have hS3:=kJ (str s10) q ((((((hS2.p 1).p 1).p 2).p 5).p 5).p 5);rw[el]at hA;have hqw:=((jk (by omega)).1 hn14).2.len;refine⟨v6-(i+1),by omega,i+1,rs++[(⟨str s10,q⟩:RL)],A17,c17,at14,hA,(((hS3.p 2).p 2).p 3).drop,by omega,by simp;omega,ha14,hq2,?_,rfl⟩;intro z hz;rcases List.mem_append.1 hz with hz | hz
     ·exact hsm z hz
     ·simp only[List.mem_singleton]at hz;subst hz;exact⟨hqw,hqc⟩
    ·refine .inr ⟨_,rfl,?_⟩;refine rE 5 hA ?_;clear hA a;intro a hA;refine de hA ?_;clear hS;have hS:=hS';clear hS';refine .inr ⟨eS (sR hn6 (dB (n:=v6-(i+1)) (by rw[hq,show v6-i=(v6-(i+1))+1 from by omega]) (Hq hn10 hn14))),⟨older,rfl,ho⟩,at',er,hne,((hS.p 1).drop.p 1).drop⟩
   ·refine .inr ⟨_,rfl,?_⟩;refine rE 6 hA ?_;clear hA a;intro a hA;refine de hA ?_;clear hS;have hS:=hS';clear hS';refine .inr ⟨eS (sR hn6 (dB (n:=v6-(i+1)) (by rw[hq,show v6-i=(v6-(i+1))+1 from by omega]) (Hh hn10))),⟨older,rfl,ho⟩,at',er,hne,((hS.p 1).drop.p 1).drop⟩
  ·intro h8;obtain rfl:i=v6:=by omega
   intro a hA;rw[Nat.sub_self]at hq;have hend:=qB hq;refine rO 16 hA ?_;clear hA a;refine aX ?_;have hS2:Sat W w (ss 206 Ar cr rs::gm 3 219 rs::gY r A c bs (at1:Int) true 0::L):=((hS.p 2).p 2);have hS3:Sat W w ((⟨Ar,cr,rs⟩:jq).ch 206 3 219::gY r A c bs (at1:Int) true 0::L):=qL hS2;exact .inl ⟨⟨Ar,cr,rs⟩,at1,sR hn6 hend,hat1,by show rs.length≤_;omega,hsm,rfl,hS3.p 1⟩
 ·refine .inr ⟨_,rfl,?_⟩;refine rE 2 hA ?_;clear hA a;intro a hA;refine de hA ?_;clear hS;have hS:=hS';clear hS';refine .inr ⟨?_,⟨older,rfl,ho⟩,at',er,hne,hS⟩;rcases hn6 with h | ⟨k,rr,h,h2⟩
  ·exact eS (FR h)
  ·exact zS h h2
def IG (bs:List UInt8)(b6 b3:Nat)(L:List As)(at' err:Int)(ok:Bool)(M:List As):Prop:=(ok=true∧err=0∧∃(Ae:Option Addr) (ce:Nat) (xs:List aV) (n:Nat),at'=(n:Int)∧jE bs=some (xs,bs.drop n)∧n≤bs.length∧(xs.length * 5≤bs.length)∧M=a8 b6 (.cells #[.slice Ae xs.length ce] 59)::a8 b3 (.cells #[.func (.func 381) #[] #[]] 452)::iY 216 Ae ce xs::L)∨(ok=false∧err≠0∧(∀xs rr,jE bs=some (xs,rr)→cd xs=false)∧M=a8 b6 (.cells #[.slice none 0 0] 59)::a8 b3 (.cells #[.func (.func 381) #[] #[]] 452)::L)
theorem yo (W w:World)(L:List As)(r q p b3 b6:Nat)(A:Option Addr)(c:Nat)(bs:List UInt8)(hS:Sat W w (gY r A c bs 0 true 0::iA q r::gQ p 0::a8 b6 (.cells #[.slice none 0 0] 59)::a8 b3 (.cells #[.func (.func 381) #[] #[]] 452)::L))(hb:bs.length≤1000000000000)(hR:Rd W 1 (.slice A bs.length c) bs.length (bs.map an)):Calls Tryz.prog 393 #[.pointer (some ⟨r,0,none⟩),.pointer (some ⟨b3,0,none⟩),.pointer (some ⟨b6,0,none⟩)] w fun e w'=>∃(at' err:Int) (ok:Bool) (M:List As),AH r ok e∧Sat W w' (gY r A c bs at' true err::iA q r::gQ p 0::M)∧IG bs b6 b3 L at' err ok M:=by
 refine enter Tryz.func393 rfl rfl rfl (.cons (i:=0) rfl (.cons (i:=1) rfl (.cons (i:=2) rfl .nil))) ?_;refine uC 1 ?_;refine u1 1 (ld rfl Kc) ?_;intro a hA;refine AD hA rfl Kk rfl rfl (r4 _ _ _ r A c bs 0 hS (by omega) hb (fun w h=>hR.sat h)) ?_;rintro e w (⟨Ae,ce,xs,at6,hn6,ha6,hx6,rfl,hS'⟩ | ⟨hn6,⟨older,rfl,ho⟩,at',er,hne,hS'⟩)
 ·clear hS;have hS:=hS';clear hS';refine .inl ⟨_,rfl,?_⟩;clear hA a;intro a hA;refine mP hA rfl rfl ma Lg rfl (hS.p 4) rfl ?_;clear hS;intro w hS;refine rO 1 hA ?_;clear hA a;intro a hA;refine fM (e:=.ret) ?_;refine jg hA rfl  ?_;exact⟨(at6:Int),0,true,_,.inl ⟨rfl,rfl⟩,((((((hS.p 2).p 5).p 2).p 5).p 5).p 5),.inl ⟨rfl,rfl,Ae,ce,xs,at6,rfl,hn6,ha6,hx6,rfl⟩⟩
 ·refine .inr ⟨_,rfl,?_⟩;refine de hA ?_;clear hS;have hS:=hS';clear hS';exact⟨at',er,false,_,.inr ⟨rfl,.inl ⟨older,rfl,ho⟩⟩,hS,.inr ⟨rfl,hne,hn6,rfl⟩⟩
def Jo (bs:List UInt8)(b6 b3:Nat)(L:List As)(at' err:Int)(ok:Bool)(M:List As):Prop:=(ok=true∧err=0∧∃(z:PL) (n:Nat),at'=(n:Int)∧fu bs=some (z.d,bs.drop n)∧n≤bs.length∧(z.d.ab.length≤bs.length)∧M=a8 b6 (.cells #[.slice z.va z.d.vec.length z.vc,.slice z.ca z.d.ab.length z.cc] 63)::a8 b3 (.cells #[.func (.func 383) #[] #[]] 455)::cI 3 z.va z.vc z.d.vec::bK 219 z.ca z.cc z.d.ab::L)∨(ok=false∧err≠0∧(fu bs=none)∧M=a8 b6 (.cells #[.slice none 0 0,.slice none 0 0] 63)::a8 b3 (.cells #[.func (.func 383) #[] #[]] 455)::L)
theorem ze (W w:World)(L:List As)(r q p b3 b6:Nat)(A:Option Addr)(c:Nat)(bs:List UInt8)(hS:Sat W w (gY r A c bs 0 true 0::iA q r::gQ p 0::a8 b6 (.cells #[.slice none 0 0,.slice none 0 0] 63)::a8 b3 (.cells #[.func (.func 383) #[] #[]] 455)::L))(hb:bs.length≤1000000000000)(hR:Rd W 1 (.slice A bs.length c) bs.length (bs.map an)):Calls Tryz.prog 395 #[.pointer (some ⟨r,0,none⟩),.pointer (some ⟨b3,0,none⟩),.pointer (some ⟨b6,0,none⟩)] w fun e w'=>∃(at' err:Int) (ok:Bool) (M:List As),AH r ok e∧Sat W w' (gY r A c bs at' true err::iA q r::gQ p 0::M)∧Jo bs b6 b3 L at' err ok M:=by
 refine enter Tryz.func395 rfl rfl rfl (.cons (i:=0) rfl (.cons (i:=1) rfl (.cons (i:=2) rfl .nil))) ?_;refine uC 1 ?_;refine u1 1 (ld rfl JH) ?_;intro a hA;refine AD hA rfl Gc rfl rfl (ph _ _ _ r A c bs 0 hS (by omega) hb (fun w h=>hR.sat h)) ?_;rintro e w (⟨z,at6,hn6,ha6,hx6,rfl,hS'⟩ | ⟨hn6,⟨older,rfl,ho⟩,at',er,hne,hS'⟩)
 ·clear hS;have hS:=hS';clear hS';refine .inl ⟨_,rfl,?_⟩;clear hA a;intro a hA;refine Hs hA (vs:=[_,_]) rfl rfl aC (by simp[Value.oneCell']) (hS.p 5) (by simp) ?_;clear hS;intro w hS;refine rO 1 hA ?_;clear hA a;intro a hA;refine fM (e:=.ret) ?_;refine jg hA rfl  ?_;exact⟨(at6:Int),0,true,_,.inl ⟨rfl,rfl⟩,(((((((hS.p 3).p 3).p 6).p 3).p 6).p 6).p 6),.inl ⟨rfl,rfl,z,at6,rfl,hn6,ha6,hx6,rfl⟩⟩
 ·refine .inr ⟨_,rfl,?_⟩;refine de hA ?_;clear hS;have hS:=hS';clear hS';exact⟨at',er,false,_,.inr ⟨rfl,.inl ⟨older,rfl,ho⟩⟩,hS,.inr ⟨rfl,hne,hn6,rfl⟩⟩
def Jw (bs:List UInt8)(b6 b3:Nat)(L:List As)(at' err:Int)(ok:Bool)(M:List As):Prop:=(ok=true∧err=0∧∃(R:jq) (n:Nat),at'=(n:Int)∧jN bs=some (R.d,bs.drop n)∧n≤bs.length∧(R.rs.length≤bs.length∧(∀x∈R.rs,x.p.d.vec.length≤16∧x.p.d.ab.length≤bs.length))∧M=a8 b6 (.cells #[.slice R.a R.rs.length R.c] 64)::a8 b3 (.cells #[.func (.func 385) #[] #[]] 458)::R.ch 206 3 219::L)∨(ok=false∧err≠0∧(∀xs rr,jN bs=some (xs,rr)→cz xs=false)∧M=a8 b6 (.cells #[.slice none 0 0] 64)::a8 b3 (.cells #[.func (.func 385) #[] #[]] 458)::L)
theorem yG (W w:World)(L:List As)(r q p b3 b6:Nat)(A:Option Addr)(c:Nat)(bs:List UInt8)(hS:Sat W w (gY r A c bs 0 true 0::iA q r::gQ p 0::a8 b6 (.cells #[.slice none 0 0] 64)::a8 b3 (.cells #[.func (.func 385) #[] #[]] 458)::L))(hb:bs.length≤1000000000000)(hR:Rd W 1 (.slice A bs.length c) bs.length (bs.map an)):Calls Tryz.prog 396 #[.pointer (some ⟨r,0,none⟩),.pointer (some ⟨b3,0,none⟩),.pointer (some ⟨b6,0,none⟩)] w fun e w'=>∃(at' err:Int) (ok:Bool) (M:List As),AH r ok e∧Sat W w' (gY r A c bs at' true err::iA q r::gQ p 0::M)∧Jw bs b6 b3 L at' err ok M:=by
 refine enter Tryz.func396 rfl rfl rfl (.cons (i:=0) rfl (.cons (i:=1) rfl (.cons (i:=2) rfl .nil))) ?_;refine uC 1 ?_;refine u1 1 (ld rfl KI) ?_;intro a hA;refine AD hA rfl Jn rfl rfl (rY _ _ _ r A c bs 0 hS (by omega) hb (fun w h=>hR.sat h)) ?_;rintro e w (⟨R,at6,hn6,ha6,hx6,hx7,rfl,hS'⟩ | ⟨hn6,⟨older,rfl,ho⟩,at',er,hne,hS'⟩)
 ·clear hS;have hS:=hS';clear hS';refine .inl ⟨_,rfl,?_⟩;clear hA a;intro a hA;refine mP hA rfl rfl l5 Lc rfl (hS.p 4) rfl ?_;clear hS;intro w hS;refine rO 1 hA ?_;clear hA a;intro a hA;refine fM (e:=.ret) ?_;refine jg hA rfl  ?_;exact⟨(at6:Int),0,true,_,.inl ⟨rfl,rfl⟩,((((((hS.p 2).p 5).p 2).p 5).p 5).p 5),.inl ⟨rfl,rfl,R,at6,rfl,hn6,ha6,⟨hx6,hx7⟩,rfl⟩⟩
 ·refine .inr ⟨_,rfl,?_⟩;refine de hA ?_;clear hS;have hS:=hS';clear hS';exact⟨at',er,false,_,.inr ⟨rfl,.inl ⟨older,rfl,ho⟩⟩,hS,.inr ⟨rfl,hne,hn6,rfl⟩⟩
theorem AB (W:World)(A:Option Addr)(c:Nat)(bs:List UInt8)(hb:bs.length≤1000000000000)(hR:Rd W 1 (.slice A bs.length c) bs.length (bs.map an)):Calls Tryz.prog 380 #[.slice A (bs).length c,.func (.func 381) #[] #[]] W fun e w'=>(∃(Ae:Option Addr) (ce:Nat) (xs:List aV),jE bs=some (xs,[])∧(xs.length * 5≤bs.length)∧e=.returned (.tuple #[.slice Ae xs.length ce,.bool true])∧Sat W w' [iY 216 Ae ce xs])∨((∀xs,jE bs=some (xs,[])→cd xs=false)∧∃v,e=.returned (.tuple #[v,.bool false])∧Sat W w' []):=by
 refine enter Tryz.func380 rfl rfl rfl (.cons (i:=0) rfl (.cons (i:=1) rfl .nil)) ?_;have hS:=Sat.start W;refine uC 2 ?_;refine uB rfl hS ?_;clear hS;intro b3 w hS;refine uO 6 ?_;refine uN Lo hS ?_;clear hS;intro b6 w hS;refine uO 5 ?_;intro a hA;refine o1 0 hA (qz (hA.mO rfl)) ?_;clear hA a;refine uF Cq rfl (jc _ _ _ A c bs (fun _ at' err ok M=>IG bs b6 b3 [] at' err ok M) 393 [.pointer (some ⟨b3,0,none⟩),.pointer (some ⟨b6,0,none⟩)] (hS) (by omega) JA (fun w r q p hS=>(yo _ _ _ r q p b3 b6 A c bs hS hb hR))) ?_;rintro e w ⟨r0,q0,p0,at',err,ok,M,rfl,hS,(⟨rfl,rfl,Ae,ce,xs,at6,rfl,hn6,ha6,hx6,rfl⟩ | ⟨rfl,hne,hn6,rfl⟩)⟩
 ·replace hS:=hS.drop.drop.drop;refine⟨_,rfl,?_⟩;refine uO 5 ?_;refine u1 1 (ld rfl ma) ?_;refine u1 5 (bn rfl rfl) ?_;refine fy ?_;rw[show decide (pT true 0 (at6:Int) bs.length=0)=decide (bs.length≤at6) from by rw[decide_eq_decide,lZ rfl];(simp;done)]
  by_cases hle:bs.length≤at6
  ·rw[List.drop_of_length_le hle]at hn6;rw[decide_eq_true hle];exact .inl ⟨Ae,ce,xs,hn6,hx6,rfl,Sat.cZ (M:=[_]) (hS.p 2) _⟩
  ·rw[decide_eq_false hle];refine .inr ⟨?_,_,rfl,hS.nil⟩;intro d h;rw[hn6]at h
   injection h with h
   have h2:=congrArg List.length (Prod.mk.inj h).2;rw[List.length_drop]at h2;simp at h2;omega
 ·replace hS:=hS.drop.drop.drop;refine⟨_,rfl,?_⟩;refine uO 5 ?_;refine u1 1 (ld rfl ma) ?_;refine u1 5 (bn rfl rfl) ?_;refine fy ?_;rw[show decide (pT false err at' bs.length=0)=false from by rw[decide_eq_false];rw[kN rfl,if_pos hne];exact hne];exact .inr ⟨fun xs h=>hn6 xs [] h,_,rfl,hS.nil⟩
theorem AQ (W:World)(A:Option Addr)(c:Nat)(bs:List UInt8)(hb:bs.length≤1000000000000)(hR:Rd W 1 (.slice A bs.length c) bs.length (bs.map an)):Calls Tryz.prog 382 #[.slice A (bs).length c,.func (.func 383) #[] #[]] W fun e w'=>(∃(z:PL),fu bs=some (z.d,[])∧(z.d.ab.length≤bs.length)∧e=.returned (.tuple #[.agg #[.slice z.va z.d.vec.length z.vc,.slice z.ca z.d.ab.length z.cc],.bool true])∧Sat W w' [cI 3 z.va z.vc z.d.vec,bK 219 z.ca z.cc z.d.ab])∨((∀d,fu bs=some (d,[])→bL d=false)∧∃z:PL,e=.returned (.tuple #[.agg #[.slice z.va z.d.vec.length z.vc,.slice z.ca z.d.ab.length z.cc],.bool false])∧Sat W w' []):=by
 refine enter Tryz.func382 rfl rfl rfl (.cons (i:=0) rfl (.cons (i:=1) rfl .nil)) ?_;have hS:=Sat.start W;refine uC 2 ?_;refine uB rfl hS ?_;clear hS;intro b3 w hS;refine uN dL hS ?_;clear hS;intro b4 w hS;refine uO 5 ?_;refine uN dL hS ?_;clear hS;intro b6 w hS;refine uO 5 ?_;intro a hA;refine o1 0 hA (qz (hA.mO rfl)) ?_;clear hA a;refine uF Cq rfl (jc _ _ _ A c bs (fun _ at' err ok M=>Jo bs b6 b3 [a8 b4 (.cells #[.slice none 0 0,.slice none 0 0] 63)] at' err ok M) 395 [.pointer (some ⟨b3,0,none⟩),.pointer (some ⟨b6,0,none⟩)] ((((hS.p 1).p 2).p 2)) (by omega) JP (fun w r q p hS=>(ze _ _ _ r q p b3 b6 A c bs hS hb hR))) ?_;rintro e w ⟨r0,q0,p0,at',err,ok,M,rfl,hS,(⟨rfl,rfl,z,at6,rfl,hn6,ha6,hx6,rfl⟩ | ⟨rfl,hne,hn6,rfl⟩)⟩
 ·replace hS:=hS.drop.drop.drop;refine⟨_,rfl,?_⟩;refine uO 5 ?_;refine u1 1 (ad (cs:=[_,_]) rfl a6 aC (by exact hS.ag (xs:=[_,_]) rfl)) ?_;refine u1 0 (bn rfl rfl) ?_;refine uW (vs:=[_,_]) (cs':=[_,_]) rfl rfl aC (hS.p 4) ?_;clear hS;intro w hS;refine uO 4 ?_;intro a hA;refine ez hA rfl (dg (cs:=[_,_]) hA rfl a6 aC (by exact hS.ag (xs:=[_,_]) rfl)) (dn hA rfl) ?_;rw[show decide (pT true 0 (at6:Int) bs.length=0)=decide (bs.length≤at6) from by rw[decide_eq_decide,lZ rfl];(simp;done)]
  by_cases hle:bs.length≤at6
  ·rw[List.drop_of_length_le hle]at hn6;rw[decide_eq_true hle];exact .inl ⟨z,hn6,hx6,rfl,Sat.cZ (M:=[_,_]) ((hS.p 4).p 4) _⟩
  ·rw[decide_eq_false hle];refine .inr ⟨?_,z,rfl,hS.nil⟩;intro d h;rw[hn6]at h
   injection h with h
   have h2:=congrArg List.length (Prod.mk.inj h).2;rw[List.length_drop]at h2;simp at h2;omega
 ·replace hS:=hS.drop.drop.drop;refine⟨_,rfl,?_⟩;refine uO 5 ?_;refine u1 1 (ad (cs:=[_,_]) rfl a6 aC (by exact hS.ag (xs:=[_,_]) rfl)) ?_;refine u1 0 (bn rfl rfl) ?_;refine uW (vs:=[_,_]) (cs':=[_,_]) rfl rfl aC (hS.p 2) ?_;clear hS;intro w hS;refine uO 4 ?_;intro a hA;refine ez hA rfl (dg (cs:=[_,_]) hA rfl a6 aC (by exact hS.ag (xs:=[_,_]) rfl)) (dn hA rfl) ?_;rw[show decide (pT false err at' bs.length=0)=false from by rw[decide_eq_false];rw[kN rfl,if_pos hne];exact hne];exact .inr ⟨fun d h=>(by rw[hn6]at h;cases h),⟨none,0,none,0,⟨[],[]⟩⟩,rfl,hS.nil⟩
theorem Ay (W:World)(A:Option Addr)(c:Nat)(bs:List UInt8)(hb:bs.length≤1000000000000)(hR:Rd W 1 (.slice A bs.length c) bs.length (bs.map an)):Calls Tryz.prog 384 #[.slice A (bs).length c,.func (.func 385) #[] #[]] W fun e w'=>(∃(R:jq),jN bs=some (R.d,[])∧(R.rs.length≤bs.length∧(∀x∈R.rs,x.p.d.vec.length≤16∧x.p.d.ab.length≤bs.length))∧e=.returned (.tuple #[.slice R.a R.rs.length R.c,.bool true])∧Sat W w' [R.ch 206 3 219])∨((∀xs,jN bs=some (xs,[])→cz xs=false)∧∃v,e=.returned (.tuple #[v,.bool false])∧Sat W w' []):=by
 refine enter Tryz.func384 rfl rfl rfl (.cons (i:=0) rfl (.cons (i:=1) rfl .nil)) ?_;have hS:=Sat.start W;refine uC 2 ?_;refine uB rfl hS ?_;clear hS;intro b3 w hS;refine uO 6 ?_;refine uN Lj hS ?_;clear hS;intro b6 w hS;refine uO 5 ?_;intro a hA;refine o1 0 hA (qz (hA.mO rfl)) ?_;clear hA a;refine uF Cq rfl (jc _ _ _ A c bs (fun _ at' err ok M=>Jw bs b6 b3 [] at' err ok M) 396 [.pointer (some ⟨b3,0,none⟩),.pointer (some ⟨b6,0,none⟩)] (hS) (by omega) I7 (fun w r q p hS=>(yG _ _ _ r q p b3 b6 A c bs hS hb hR))) ?_;rintro e w ⟨r0,q0,p0,at',err,ok,M,rfl,hS,(⟨rfl,rfl,R,at6,rfl,hn6,ha6,hx6,rfl⟩ | ⟨rfl,hne,hn6,rfl⟩)⟩
 ·replace hS:=hS.drop.drop.drop;refine⟨_,rfl,?_⟩;refine uO 5 ?_;refine u1 1 (ld rfl l5) ?_;refine u1 5 (bn rfl rfl) ?_;refine fy ?_;rw[show decide (pT true 0 (at6:Int) bs.length=0)=decide (bs.length≤at6) from by rw[decide_eq_decide,lZ rfl];(simp;done)]
  by_cases hle:bs.length≤at6
  ·rw[List.drop_of_length_le hle]at hn6;rw[decide_eq_true hle];exact .inl ⟨R,hn6,hx6,rfl,Sat.cZ (M:=[_]) (hS.p 2) _⟩
  ·rw[decide_eq_false hle];refine .inr ⟨?_,_,rfl,hS.nil⟩;intro d h;rw[hn6]at h
   injection h with h
   have h2:=congrArg List.length (Prod.mk.inj h).2;rw[List.length_drop]at h2;simp at h2;omega
 ·replace hS:=hS.drop.drop.drop;refine⟨_,rfl,?_⟩;refine uO 5 ?_;refine u1 1 (ld rfl l5) ?_;refine u1 5 (bn rfl rfl) ?_;refine fy ?_;rw[show decide (pT false err at' bs.length=0)=false from by rw[decide_eq_false];rw[kN rfl,if_pos hne];exact hne];exact .inr ⟨fun xs h=>hn6 xs [] h,_,rfl,hS.nil⟩
theorem r7 (W:World)(A:Option Addr)(c:Nat)(bs:List UInt8)(hb:bs.length≤16777216)(hR:Rd W 1 (.slice A bs.length c) bs.length (bs.map an)):Calls Tryz.prog 365 #[.slice A (bs).length c] W fun e w'=>(∃(Ae:Option Addr) (ce:Nat) (xs:List aV),jE bs=some (xs,[])∧cd xs=true∧(xs.length * 5≤bs.length)∧e=.returned (.tuple #[.slice Ae xs.length ce,.int .i64 0])∧Sat W w' [iY 216 Ae ce xs])∨((∀xs,jE bs=some (xs,[])→cd xs=false)∧e=.returned (.tuple #[.slice none 0 0,.int .i64 8])∧Sat W w' []):=by
 refine enter Tryz.func365 rfl rfl rfl (.cons (i:=0) rfl .nil) ?_;have hS:=Sat.start W;refine uC 9 ?_;refine uF Ib rfl (AB _ A c bs (by omega) (hR.sat hS)) ?_;rintro e w (⟨Ae,ce,xs,hq,hbd,rfl,hT⟩ | ⟨hno,v,rfl,hT⟩)
 ·replace hS:=hS.aB hT;clear hT;refine⟨_,rfl,?_⟩;refine uO 1 ?_;refine u1 0 (au rfl rfl) ?_;refine nb 0 0 (au rfl rfl) ?_ ?_
  ·intro h10;intro a hA;simp only[decide_eq_decide,decide_eq_true_eq,decide_eq_false_iff_not,Bool.not_eq_true',Bool.not_eq_false',bne_iff_ne,ne_eq,beq_iff_eq,Bool.not_eq_true,Bool.not_eq_false]at h10;refine rO 8 hA ?_;clear hA a;refine u1 2 (aM rfl) ?_;intro a hA;refine dQ hA (ao hA rfl rfl rfl) rfl vT rfl (gE _ Ae ce xs hS.rd (by omega)) ?_;clear hA a;rintro e w ⟨rfl,hT⟩;replace hS:Sat _ _ _:=hS.ai hT;clear hT;refine⟨_,rfl,?_⟩;refine aR 0 0 (aK rfl rfl) ?_ ?_
   ·intro h16;refine uO 12 ?_;refine fy ?_;have hg:cd xs=false:=by simpa[jq.d]using h16
    refine .inr ⟨?_,rfl,hS.nil⟩;intro d h;rw[hq]at h;cases h;exact hg
   ·intro h16;refine uO 14 ?_;refine fy ?_;have hg:cd xs=true:=by simpa[jq.d]using h16
    exact .inl ⟨Ae,ce,xs,hq,hg,hbd,rfl,fz hS⟩
  ·intro h10;intro a hA;contradiction
 ·replace hS:Sat _ _ _:=hS.ai hT;clear hT;refine⟨_,rfl,?_⟩;refine uO 1 ?_;refine u1 0 (au rfl rfl) ?_;refine nb 0 0 (au rfl rfl) ?_ ?_
  ·intro h10;intro a hA;contradiction
  ·intro h10;intro a hA;simp only[decide_eq_decide,decide_eq_true_eq,decide_eq_false_iff_not,Bool.not_eq_true',Bool.not_eq_false',bne_iff_ne,ne_eq,beq_iff_eq,Bool.not_eq_true,Bool.not_eq_false]at h10;refine rO 8 hA ?_;clear hA a;refine u1 16 (aM rfl) ?_;refine fy ?_;exact .inr ⟨hno,rfl,hS.nil⟩
theorem o8 (W:World)(A:Option Addr)(c:Nat)(bs:List UInt8)(hb:bs.length≤16777216)(hR:Rd W 1 (.slice A bs.length c) bs.length (bs.map an)):Calls Tryz.prog 366 #[.slice A (bs).length c] W fun e w'=>(∃(z:PL),fu bs=some (z.d,[])∧bL z.d=true∧(z.d.ab.length≤bs.length)∧e=.returned (.tuple #[.agg #[.slice z.va z.d.vec.length z.vc,.slice z.ca z.d.ab.length z.cc],.int .i64 0])∧Sat W w' [cI 3 z.va z.vc z.d.vec,bK 219 z.ca z.cc z.d.ab])∨((∀d,fu bs=some (d,[])→bL d=false)∧e=.returned (.tuple #[.agg #[.slice none 0 0,.slice none 0 0],.int .i64 8])∧Sat W w' []):=by
 refine enter Tryz.func366 rfl rfl rfl (.cons (i:=0) rfl .nil) ?_;have hS:=Sat.start W;refine uC 2 ?_;refine uN dL hS ?_;clear hS;intro b2 w hS;refine uO 6 ?_;refine uF JI rfl (AQ _ A c bs (by omega) (hR.sat hS)) ?_;rintro e w (⟨z,hq,hbd,rfl,hT⟩ | ⟨hno,z,rfl,hT⟩)
 ·replace hS:Sat _ _ (_::_::_):=hS.ai hT;clear hT;have hzv:=((jk (by omega)).1 hq).2.len;refine⟨_,rfl,?_⟩;refine uO 1 ?_;refine u1 0 (au rfl rfl) ?_;refine nb 0 0 (au rfl rfl) ?_ ?_
  ·intro h10;intro a hA;simp only[decide_eq_decide,decide_eq_true_eq,decide_eq_false_iff_not,Bool.not_eq_true',Bool.not_eq_false',bne_iff_ne,ne_eq,beq_iff_eq,Bool.not_eq_true,Bool.not_eq_false]at h10;refine goN hA rfl dL hS ?_;clear hA a hS;intro b4 w hS;refine uW (vs:=[_,_]) (cs':=[_,_]) rfl rfl aC hS ?_;clear hS;intro w hS;refine uO 7 ?_;refine u1 1 (aM rfl) ?_;refine u1 0 (ad (cs:=[_,_]) rfl a6 aC (by exact hS.ag (xs:=[_,_]) rfl)) ?_;intro a hA;refine dQ hA (ao hA rfl rfl rfl) rfl uU rfl (fE _ z ⟨(hS.p 1).rd,(hS.p 2).rd⟩ (by omega) (by omega)) ?_;clear hA a;rintro e w ⟨rfl,hT⟩;replace hS:Sat _ _ _:=hS.ai hT;clear hT;generalize h15:(bL z.d)=bb;cases bb
   ·refine⟨_,rfl,?_⟩;refine u1 6 (aM rfl) ?_;intro a hA;refine o1 0 hA (aP hA rfl Bl) ?_;clear hA a;refine uW (vs:=[_,_]) (cs':=[_,_]) rfl rfl aC (hS.p 3) ?_;clear hS;intro w hS;refine uO 5 ?_;intro a hA;refine ez hA rfl (dg (cs:=[_,_]) hA rfl a6 aC (by exact hS.ag (xs:=[_,_]) rfl)) (dn hA rfl) ?_;have hg:bL z.d=false:=h15;refine .inr ⟨?_,rfl,hS.nil⟩;intro d h;rw[hq]at h;cases h;exact hg
   ·refine⟨_,rfl,?_⟩;refine u1 8 (aM rfl) ?_;refine u1 0 (ad (cs:=[_,_]) rfl a6 aC (by exact hS.ag (xs:=[_,_]) rfl)) ?_;refine uW (vs:=[_,_]) (cs':=[_,_]) rfl rfl aC (hS.p 3) ?_;clear hS;intro w hS;refine uO 4 ?_;intro a hA;refine ez hA rfl (dg (cs:=[_,_]) hA rfl a6 aC (by exact hS.ag (xs:=[_,_]) rfl)) (dn hA rfl) ?_;have hg:bL z.d=true:=h15;exact .inl ⟨z,hq,hg,hbd,rfl,oO ((hS.p 3).p 3)⟩
  ·intro h10;intro a hA;contradiction
 ·replace hS:Sat _ _ _:=hS.ai hT;clear hT;refine⟨_,rfl,?_⟩;refine uO 1 ?_;refine u1 0 (au rfl rfl) ?_;refine nb 0 0 (au rfl rfl) ?_ ?_
  ·intro h10;intro a hA;contradiction
  ·intro h10;intro a hA;simp only[decide_eq_decide,decide_eq_true_eq,decide_eq_false_iff_not,Bool.not_eq_true',Bool.not_eq_false',bne_iff_ne,ne_eq,beq_iff_eq,Bool.not_eq_true,Bool.not_eq_false]at h10;refine goN hA rfl dL hS ?_;clear hA a hS;intro b4 w hS;refine uW (vs:=[_,_]) (cs':=[_,_]) rfl rfl aC hS ?_;clear hS;intro w hS;refine uO 7 ?_;refine u1 10 (aM rfl) ?_;intro a hA;refine o1 0 hA (aP hA rfl Bl) ?_;clear hA a;refine uW (vs:=[_,_]) (cs':=[_,_]) rfl rfl aC (hS.p 1) ?_;clear hS;intro w hS;refine uO 5 ?_;intro a hA;refine ez hA rfl (dg (cs:=[_,_]) hA rfl a6 aC (by exact hS.ag (xs:=[_,_]) rfl)) (dn hA rfl) ?_;exact .inr ⟨hno,rfl,hS.nil⟩
theorem gz (W:World)(A:Option Addr)(c:Nat)(bs:List UInt8)(hb:bs.length≤16777216)(hR:Rd W 1 (.slice A bs.length c) bs.length (bs.map an)):Calls Tryz.prog 367 #[.slice A (bs).length c] W fun e w'=>(∃(R:jq),jN bs=some (R.d,[])∧cz R.d=true∧(R.rs.length≤bs.length∧(∀x∈R.rs,x.p.d.vec.length≤16∧x.p.d.ab.length≤bs.length))∧e=.returned (.tuple #[.slice R.a R.rs.length R.c,.int .i64 0])∧Sat W w' [R.ch 206 3 219])∨((∀xs,jN bs=some (xs,[])→cz xs=false)∧e=.returned (.tuple #[.slice none 0 0,.int .i64 8])∧Sat W w' []):=by
 refine enter Tryz.func367 rfl rfl rfl (.cons (i:=0) rfl .nil) ?_;have hS:=Sat.start W;refine uC 9 ?_;refine uF IM rfl (Ay _ A c bs (by omega) (hR.sat hS)) ?_;rintro e w (⟨R,hq,hbd,rfl,hT⟩ | ⟨hno,v,rfl,hT⟩)
 ·replace hS:=hS.aB hT;clear hT;have hrl:=hbd.1;refine⟨_,rfl,?_⟩;refine uO 1 ?_;refine u1 0 (au rfl rfl) ?_;refine nb 0 0 (au rfl rfl) ?_ ?_
  ·intro h10;intro a hA;simp only[decide_eq_decide,decide_eq_true_eq,decide_eq_false_iff_not,Bool.not_eq_true',Bool.not_eq_false',bne_iff_ne,ne_eq,beq_iff_eq,Bool.not_eq_true,Bool.not_eq_false]at h10;refine rO 8 hA ?_;clear hA a;refine u1 2 (aM rfl) ?_;intro a hA;refine dQ hA (ao hA rfl rfl rfl) rfl tA rfl (fC _ R.a R.c R.rs (jq.vq hS).top (jq.vq hS).each (fun r hr=>by have:=hbd.2 r hr;omega) (by omega)) ?_;clear hA a;rintro e w ⟨rfl,hT⟩;replace hS:Sat _ _ _:=hS.ai hT;clear hT;refine⟨_,rfl,?_⟩;refine aR 0 0 (aK rfl rfl) ?_ ?_
   ·intro h16;refine uO 12 ?_;refine fy ?_;have hg:cz R.d=false:=by simpa[jq.d]using h16
    refine .inr ⟨?_,rfl,hS.nil⟩;intro d h;rw[hq]at h;cases h;exact hg
   ·intro h16;refine uO 14 ?_;refine fy ?_;have hg:cz R.d=true:=by simpa[jq.d]using h16
    exact .inl ⟨R,hq,hg,hbd,rfl,fz hS⟩
  ·intro h10;intro a hA;contradiction
 ·replace hS:Sat _ _ _:=hS.ai hT;clear hT;refine⟨_,rfl,?_⟩;refine uO 1 ?_;refine u1 0 (au rfl rfl) ?_;refine nb 0 0 (au rfl rfl) ?_ ?_
  ·intro h10;intro a hA;contradiction
  ·intro h10;intro a hA;simp only[decide_eq_decide,decide_eq_true_eq,decide_eq_false_iff_not,Bool.not_eq_true',Bool.not_eq_false',bne_iff_ne,ne_eq,beq_iff_eq,Bool.not_eq_true,Bool.not_eq_false]at h10;refine rO 8 hA ?_;clear hA a;refine u1 16 (aM rfl) ?_;refine fy ?_;exact .inr ⟨hno,rfl,hS.nil⟩
end Go.Proofs.YtkjabaihpkbfhaaGreat.Wk
namespace Go.Proofs.YtkjabaihpkbfhaaGreat.K
open Go Go.RowKit
variable {P:Program} {a:Act} {n:Nat} {E:Env} {w:World}
theorem JV {f:ResultVar→Sem Value}{r s u t:ResultVar}{v x z y:Value}(h1:(f r).run P w=.ok v w)(h2:(f s).run P w=.ok x w)(h3:(f u).run P w=.ok z w)(h4:(f t).run P w=.ok y w):((#[r,s,u,t]:Array ResultVar).mapM f).run P w=.ok #[v,x,z,y] w:=by
 simp[go_sem,h1,h2,h3,h4]
theorem o5 {fn:Func}{R:Ending→World→Prop}{r s u t:ResultVar}{v x z y:Value}(hA:Ag a n E)(hr:fn.results=#[r,s,u,t])(hv:mI P w a.tmps r v)(hx:mI P w a.tmps s x)(hz:mI P w a.tmps u z)(hy:mI P w a.tmps t y)(h:R (.returned (.tuple #[v,x,z,y])) w):bodyPost P fn R .ret a w:=
 ⟨hA.defers,.tuple #[v,x,z,y],by rw[mW,hr,Sem.run_bind',JV hv hx hz hy];rfl,h⟩
end Go.Proofs.YtkjabaihpkbfhaaGreat.K
namespace Go.Proofs.YtkjabaihpkbfhaaGreat.Wk
open Go Go.RowKit Go.Proofs.YtkjabaihpkbfhaaGreat Go.Proofs.YtkjabaihpkbfhaaGreat.K
def rA (k:Nat)(f:jP→Bool)(b:List UInt8):Prop:=∀d:jP,f d=true→b≠ct k d
theorem kD {xs:List aV}(h:cd xs=true)(hl:xs.length≤9223372036854775807):jE (cK xs)=some (xs,[]):=wC.2 ⟨by simp,kI h,hl⟩
theorem oM {p:aL}(h:bL p=true)(hl:p.ab.length≤9223372036854775807):fu (cL p)=some (p,[]):=(jk hl).2 ⟨by simp,(gq.1 h).toCa⟩
theorem FF {rs:List bW}(h:∀r∈rs,fx r=true)(hl:∀r∈rs,r.bF.ab.length≤9223372036854775807):jD D1 none rs:=by
 have:∀(l:List bW) (p:Option bW),(∀r∈l,fx r=true)→(∀r∈l,r.bF.ab.length≤9223372036854775807)→jD D1 p l:=by
  intro l
  induction l with
  | nil=>intro p _ _;trivial
  | cons x l ih =>
    intro p h1 h2;have h3:=oH (h1 x (by simp));exact⟨⟨h3.1,h3.2.toCa,h2 x (by simp)⟩,ih _ (fun r hr=>h1 r (by simp[hr])) (fun r hr=>h2 r (by simp[hr]))⟩
 exact this rs none h hl
theorem sb {rs:List bW}(h:cz rs=true)(hl:(cj rs).length≤9223372036854775807):jN (cj rs)=some (rs,[]):=by
 have hs:=zz rs;have hn:=ql (rs.map bW.bF);rw[List.length_map]at hn;refine rn.2 ⟨by simp,FF (gj h) (fun r hr=>?_),by omega⟩;have:=u7 (List.mem_map.2 ⟨r,hr,rfl⟩:r.bF∈rs.map bW.bF);omega
theorem lO {k:Nat}{d:jP}(hk:k≤2)(hL:(ct k d).length≤9223372036854775807):∃r0 r1 r2:List UInt8,bP 2 (ct k d)=some (k,r0)∧dh 9223372036854775807 r0=some (cK d.lQ,r1)∧dh 9223372036854775807 r1=some (cL d.bF,r2)∧dh 9223372036854775807 r2=some (cj d.nG,[]):=by
 unfold ct fr at hL ⊢;simp only[List.length_append]at hL;exact⟨_,_,_,bD.2 ⟨rfl,by omega,by omega⟩,eQ.2 ⟨rfl,by omega,by omega⟩,eQ.2 ⟨rfl,by omega,by omega⟩,eQ.2 ⟨by simp,by omega,by omega⟩⟩
section
variable {k:Nat} {f:jP→Bool} {b:List UInt8}
theorem L2 (hk:k≤2)(hL:b.length≤9223372036854775807)(h:bP 2 b=none):rA k f b:=fun d _ e=>by
 subst e;obtain⟨r0,r1,r2,h0,_⟩:=lO hk hL;rw[h0]at h;cases h
theorem LW (hk:k≤2)(hL:b.length≤9223372036854775807){v:Nat}{r0:List UInt8}(h0:bP 2 b=some (v,r0))(h:(v:Int)≠(k:Int)):rA k f b:=fun d _ e=>by
 subst e;obtain⟨s0,r1,r2,g0,_⟩:=lO hk hL;rw[g0]at h0;cases h0;exact h rfl
theorem L1 (hk:k≤2)(hL:b.length≤9223372036854775807){v:Nat}{r0:List UInt8}(h0:bP 2 b=some (v,r0))(h:dh 9223372036854775807 r0=none):rA k f b:=fun d _ e=>by
 subst e;obtain⟨s0,r1,r2,g0,g1,_⟩:=lO hk hL;rw[g0]at h0;cases h0;rw[g1]at h;cases h
theorem LU (hk:k≤2)(hL:b.length≤9223372036854775807){v:Nat}{r0 r1 f0:List UInt8}(h0:bP 2 b=some (v,r0))(h1:dh 9223372036854775807 r0=some (f0,r1))(h:dh 9223372036854775807 r1=none):rA k f b:=fun d _ e=>by
 subst e;obtain⟨s0,s1,r2,g0,g1,g2,_⟩:=lO hk hL;rw[g0]at h0;cases h0;rw[g1]at h1;cases h1;rw[g2]at h;cases h
theorem LR (hk:k≤2)(hL:b.length≤9223372036854775807){v:Nat}{r0 r1 r2 f0 f1:List UInt8}(h0:bP 2 b=some (v,r0))(h1:dh 9223372036854775807 r0=some (f0,r1))(h2:dh 9223372036854775807 r1=some (f1,r2))(h:dh 9223372036854775807 r2=none):rA k f b:=fun d _ e=>by
 subst e;obtain⟨s0,s1,s2,g0,g1,g2,g3⟩:=lO hk hL;rw[g0]at h0;cases h0;rw[g1]at h1;cases h1;rw[g2]at h2;cases h2;rw[g3]at h;cases h
theorem Hc (hk:k≤2)(hL:b.length≤9223372036854775807){v:Nat}{r0 r1 r2 r3 f0 f1 f2:List UInt8}(h0:bP 2 b=some (v,r0))(h1:dh 9223372036854775807 r0=some (f0,r1))(h2:dh 9223372036854775807 r1=some (f1,r2))(h3:dh 9223372036854775807 r2=some (f2,r3))
 (hf:∀d,f d=true→r3=[]→f0=cK d.lQ→f1=cL d.bF→f2=cj d.nG→False):rA k f b:=fun d hd e=>by
 subst e;obtain⟨s0,s1,s2,g0,g1,g2,g3⟩:=lO hk hL;rw[g0]at h0;cases h0;rw[g1]at h1;cases h1;rw[g2]at h2;cases h2;rw[g3]at h3;cases h3;exact hf d hd rfl rfl rfl rfl
theorem KA {v:Nat}{r0 r1 r2 f0 f1 f2:List UInt8}{d:jP}(h0:bP 2 b=some (v,r0))(hv:v=k)(h1:dh 9223372036854775807 r0=some (f0,r1))(h2:dh 9223372036854775807 r1=some (f1,r2))(h3:dh 9223372036854775807 r2=some (f2,[]))
 (e0:jE f0=some (d.lQ,[])) (e1:fu f1=some (d.bF,[])) (e2:jN f2=some (d.nG,[])) (hc:d.bF.ab.length≤9223372036854775807):b=ct k d:=by
 subst hv;obtain⟨rfl,_,_⟩:=bD.1 h0;obtain⟨rfl,_,_⟩:=eQ.1 h1;obtain⟨rfl,_,_⟩:=eQ.1 h2;obtain⟨rfl,_,_⟩:=eQ.1 h3;obtain⟨rfl,_,_⟩:=wC.1 e0;obtain⟨rfl,_⟩:=(jk hc).1 e1;obtain⟨rfl,_,_⟩:=rn.1 e2;unfold ct fr;simp only[List.append_nil,List.append_assoc]
end
theorem kx {xs:List aV}{n:Nat}(h:(cK xs).length≤n)(hn:n≤9223372036854775807:=by omega):xs.length≤9223372036854775807:=by
 have h1:=jI (g:=mM) (k:=4) (fun p e=>EA p e) xs none;unfold cK at h;rw[List.length_append]at h;omega
theorem oC {p:aL}{n:Nat}(h:(cL p).length≤n)(hn:n≤9223372036854775807:=by omega):p.ab.length≤9223372036854775807:=by
 have:=pL p;omega
theorem EK {es:List aV}{p:aL}{rs:List bW}(h1:cd es=true)(h2:bL p=true)(h3:cz rs=true):aH ⟨es,p,rs⟩=true:=by
 unfold aH;dsimp only;rw[h1,h2,h3];rfl
theorem ff (W w:World)(L:List As)(r:Nat)(A:Option Addr)(c:Nat)(bs:List UInt8)(at_:Nat)(mo:Int)(hS:Sat W w (gY r A c bs at_ true 0::L))(hat:at_≤bs.length)(hb:bs.length≤140737488355328)(hR:∀w,Sat W w L→Rd w 1 (.slice A bs.length c) bs.length (bs.map an)):Calls Tryz.prog 103 #[.pointer (some ⟨r,0,none⟩),.int .i64 mo] w fun e w'=>
 (∃(s:List UInt8) (at':Nat) (A':Option Addr) (c':Nat),dh mo (bs.drop at_)=some (s,bs.drop at')∧at'≤bs.length∧s.length≤bs.length∧e=.returned (.slice A' s.length c')∧Sat W w' (gY r A c bs (at':Int) true 0::row 5 1 (.slice A' (s).length c') (s).length ((s).map an)::L))∨(dh mo (bs.drop at_)=none∧xS (.iface 271 (.agg #[.pointer (some ⟨r,0,none⟩)])) e∧∃at' er:Int,er≠0∧Sat W w' (gY r A c bs at' true er::L)):=
 (xx W w L r A c bs at_ mo hS hat hb hR).mono fun e w' h=>by
  rcases h with ⟨h0,A',c',he,hs⟩ | ⟨h0,hp,at',hs⟩
  ·
   have hl:=BH (bs:=bs) (i:=at_) (mo:=mo);obtain⟨s,a,hu,h1,h2⟩:=LK h0;rw[hu]at he hs hl;exact .inl ⟨s,a,A',c',h1,h2,hl,he,hs⟩
  ·
   exact .inr ⟨wZ h0,hp,at',_,by omega,hs⟩
def KB (k:Nat)(bs:List UInt8)(b8:Nat)(L:List As)(at' err:Int)(ok:Bool)(M:List As):Prop:=(ok=true∧err=0∧∃(v:Nat) (r0 r1 r2 f0 f1 f2:List UInt8) (n:Nat) (A0 A1 A2:Option Addr) (c0 c1 c2:Nat),at'=(n:Int)∧v=k∧bP 2 bs=some (v,r0)∧dh 9223372036854775807 r0=some (f0,r1)∧dh 9223372036854775807 r1=some (f1,r2)∧dh 9223372036854775807 r2=some (f2,bs.drop n)∧n≤bs.length∧f0.length≤bs.length∧f1.length≤bs.length∧f2.length≤bs.length∧M=a8 b8 (.cells #[.slice A0 f0.length c0,.slice A1 f1.length c1,.slice A2 f2.length c2] 307)::row 5 1 (.slice A0 (f0).length c0) (f0).length ((f0).map an)::row 5 1 (.slice A1 (f1).length c1) (f1).length ((f1).map an)::row 5 1 (.slice A2 (f2).length c2) (f2).length ((f2).map an)::L)∨(ok=false∧err≠0∧(∀f,rA k f bs)∧M=L)
end Go.Proofs.YtkjabaihpkbfhaaGreat.Wk
namespace Go.Proofs.YtkjabaihpkbfhaaGreat.Wk
open Go Go.RowKit Go.Proofs.YtkjabaihpkbfhaaGreat Go.Proofs.YtkjabaihpkbfhaaGreat.K Go.Proofs.YtkjabaihpkbfhaaGreat.T
theorem yW (W w:World)(L:List As)(r q p b3 b8 k:Nat)(A:Option Addr)(c:Nat)(bs:List UInt8)(hS:Sat W w (gY r A c bs 0 true 0::iA q r::gQ p 0::a8 b8 (.cells #[.slice none 0 0,.slice none 0 0,.slice none 0 0] 307)::a8 b3 (.cells #[.int .i64 (k:Int)] 3)::L))(hk:k≤2)(hb:bs.length≤1000000000000)(hR:Rd W 1 (.slice A bs.length c) bs.length (bs.map an)):Calls Tryz.prog 364 #[.pointer (some ⟨r,0,none⟩),.pointer (some ⟨b3,0,none⟩),.pointer (some ⟨b8,0,none⟩)] w fun e w'=>∃(at' err:Int) (ok:Bool) (M:List As),AH r ok e∧Sat W w' (gY r A c bs at' true err::iA q r::gQ p 0::M)∧KB k bs b8 L at' err ok M:=by
 refine enter Tryz.func364 rfl rfl rfl (.cons (i:=0) rfl (.cons (i:=1) rfl (.cons (i:=2) rfl .nil))) ?_;have hL:bs.length≤9223372036854775807:=(by omega);refine uC 2 ?_;intro a hA;refine jh [] (lr W (iA q r::gQ p 0::a8 b8 (.cells #[.slice none 0 0,.slice none 0 0,.slice none 0 0] 307)::a8 b3 (.cells #[.int .i64 (k:Int)] 3)::L)) (by kernel_rfl) ?_;replace hS:=hS.drew;refine rX [0] hA ?_;clear hA a;refine cT 2 [] rfl (by exact⟨[_],hS⟩) (fun w hT=>have hS:=hT.sat;(ld rfl aQ)) ?_;intro a hA;refine aG 1 (by kernel_rfl) ?_;refine Gl hA rfl rfl gP rfl (cf _ _ _ r A c bs 0 2 hS (by omega) (by omega) (fun w h=>hR.sat h)) ?_;rintro e w (⟨v6,at6,hn6,ha6,hv6,hw6,rfl,hS'⟩ | ⟨hn6,⟨older,rfl,ho⟩,at',er,hne,hS'⟩)
 rotate_left 1
 ·refine .inr ⟨_,rfl,?_⟩;refine rE 2 hA ?_;clear hA a;intro a hA;refine de hA ?_;clear hS;have hS:=hS';clear hS';exact⟨at',er,false,_,.inr ⟨rfl,.inl ⟨older,rfl,ho⟩⟩,((hS.p 3).drop.p 3).drop,.inr ⟨rfl,hne,fun f=>L2 hk hL hn6,rfl⟩⟩
 clear hS;have hS:=hS';clear hS';refine .inl ⟨_,rfl,?_⟩;clear hA a;intro a hA;refine⟨.inr fun _=>(by exact⟨[_],hS⟩),?_⟩;refine K.GW 3 hA pk rfl rfl rfl rfl (by kernel_rfl) (by kernel_rfl) (by kernel_rfl) (fun w=>(aK (hA.ev rfl) (hA.ev rfl))) ?_ ?_
 ·clear hA a;intro h8;intro a hA;refine ak (by kernel_rfl) ?_ _;refine rE 4 hA ?_;clear hA a;intro a hA;refine dY hA rfl lI rfl (cU _ _ _ r A c bs at6 8 hS (by omega) (by omega) (fun w h=>hR.sat h)) ?_;rintro e w ⟨⟨older,rfl,ho⟩,at',hS'⟩
  ·refine .inr ⟨_,rfl,?_⟩;refine rE 1 hA ?_;clear hA a;intro a hA;refine de hA ?_;clear hS;have hS:=hS';clear hS';exact⟨at',8,false,_,.inr ⟨rfl,.inl ⟨older,rfl,ho⟩⟩,((hS.p 3).drop.p 3).drop,.inr ⟨rfl,by decide,fun f=>LW hk hL hn6 h8,rfl⟩⟩
 ·clear hA a;intro h8;intro a hA;refine ak (by kernel_rfl) ?_ _;refine rE 10 hA ?_;clear hA a;intro a hA;refine wp_loop_rounds 4 ?_;refine aU ?_;refine rC 2 hA ?_;clear hA a;refine u1 17 (eu (aw rfl rfl) (by omega)) ?_;intro a hA;refine dY hA rfl tV rfl (ff _ _ _ r A c bs at6 9223372036854775807 hS (by omega) (by omega) (fun w h=>hR.sat h)) ?_;rintro e w (⟨f0,af0,A0,c0,hf0,haf0,hlf0,rfl,hS'⟩ | ⟨hf0,⟨older,rfl,ho⟩,at',er,hne,hS'⟩)
  ·clear hS;have hS:=hS';clear hS';refine .inl ⟨_,rfl,?_⟩;clear hA a;refine u1 0 (aW rfl rfl pf jz (by omega) (by omega)) ?_;intro a hA;refine mj (cs':=[_,_,_]) hA rfl rfl fZ jz rfl (hS.p 4) rfl rfl ?_;clear hS;intro w hS;refine rO 4 hA ?_;clear hA a;refine u1 2 (aJ (ah rfl rfl (by omega) (by omega)) (show _=Value.int .i64 1 from rfl)) ?_;intro a hA;refine aU ?_;refine rC 2 hA ?_;clear hA a;refine u1 17 (eu (aw rfl rfl) (by omega)) ?_;intro a hA;refine dY hA rfl tV rfl (ff _ _ _ r A c bs af0 9223372036854775807 (hS.p 1) (by omega) (by omega) (fun w h=>hR.sat h)) ?_;rintro e w (⟨f1,af1,A1,c1,hf1,haf1,hlf1,rfl,hS'⟩ | ⟨hf1,⟨older,rfl,ho⟩,at',er,hne,hS'⟩)
   ·clear hS;have hS:=hS';clear hS';refine .inl ⟨_,rfl,?_⟩;clear hA a;refine u1 0 (aW rfl rfl pf jz (by omega) (by omega)) ?_;intro a hA;refine mj (cs':=[_,_,_]) hA rfl rfl fZ jz rfl (hS.p 2) rfl rfl ?_;clear hS;intro w hS;refine rO 4 hA ?_;clear hA a;refine u1 2 (aJ (ah rfl rfl (by omega) (by omega)) (show _=Value.int .i64 2 from rfl)) ?_;intro a hA;refine aU ?_;refine rC 2 hA ?_;clear hA a;refine u1 17 (eu (aw rfl rfl) (by omega)) ?_;intro a hA;refine dY hA rfl tV rfl (ff _ _ _ r A c bs af1 9223372036854775807 (hS.p 1) (by omega) (by omega) (fun w h=>hR.sat h)) ?_;rintro e w (⟨f2,af2,A2,c2,hf2,haf2,hlf2,rfl,hS'⟩ | ⟨hf2,⟨older,rfl,ho⟩,at',er,hne,hS'⟩)
    ·clear hS;have hS:=hS';clear hS';refine .inl ⟨_,rfl,?_⟩;clear hA a;refine u1 0 (aW rfl rfl pf jz (by omega) (by omega)) ?_;intro a hA;refine mj (cs':=[_,_,_]) hA rfl rfl fZ jz rfl (hS.p 2) rfl rfl ?_;clear hS;intro w hS;refine rO 4 hA ?_;clear hA a;refine u1 2 (aJ (ah rfl rfl (by omega) (by omega)) (show _=Value.int .i64 3 from rfl)) ?_;intro a hA;refine aU ?_;refine rC 2 hA ?_;clear hA a;refine u1 8 (dP (aw rfl rfl) (by omega)) ?_;intro a hA;refine fM (e:=.ret) ?_;refine jg hA rfl  ?_;refine⟨(af2:Int),0,true,_,.inl ⟨rfl,rfl⟩,((((((((hS.p 2).p 3).p 4).p 3).p 6).p 6).p 6).p 7).drop,.inl ⟨rfl,rfl,v6,_,_,_,f0,f1,f2,af2,A0,A1,A2,c0,c1,c2,rfl,by omega,hn6,hf0,hf1,hf2,haf2,hlf0,hlf1,hlf2,rfl⟩⟩
    ·refine .inr ⟨_,rfl,?_⟩;refine rE 4 hA ?_;clear hA a;intro a hA;refine de hA ?_;clear hS;have hS:=hS';clear hS';exact⟨at',er,false,_,.inr ⟨rfl,.inl ⟨older,rfl,ho⟩⟩,(((((((hS.p 5).p 5).p 2).p 6).p 6).p 6).p 6).drop.drop.drop.drop,.inr ⟨rfl,hne,fun f=>LR hk hL hn6 hf0 hf1 hf2,rfl⟩⟩
   ·refine .inr ⟨_,rfl,?_⟩;refine rE 4 hA ?_;clear hA a;intro a hA;refine de hA ?_;clear hS;have hS:=hS';clear hS';exact⟨at',er,false,_,.inr ⟨rfl,.inl ⟨older,rfl,ho⟩⟩,((((((hS.p 4).p 4).p 2).p 5).p 5).p 5).drop.drop.drop,.inr ⟨rfl,hne,fun f=>LU hk hL hn6 hf0 hf1,rfl⟩⟩
  ·refine .inr ⟨_,rfl,?_⟩;refine rE 4 hA ?_;clear hA a;intro a hA;refine de hA ?_;clear hS;have hS:=hS';clear hS';exact⟨at',er,false,_,.inr ⟨rfl,.inl ⟨older,rfl,ho⟩⟩,((hS.p 3).drop.p 3).drop,.inr ⟨rfl,hne,fun f=>L1 hk hL hn6 hf0,rfl⟩⟩
end Go.Proofs.YtkjabaihpkbfhaaGreat.Wk
