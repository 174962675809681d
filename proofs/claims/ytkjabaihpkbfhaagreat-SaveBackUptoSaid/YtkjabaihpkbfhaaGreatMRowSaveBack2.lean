/- Texts of our own that a row leans on, put together. No condition of their own. -/
import Derived.Test.YtkjabaihpkbfhaaGreatMRowSaveBack1
set_option linter.unusedVariables false
set_option linter.unusedSimpArgs false
set_option maxRecDepth 100000
set_option maxHeartbeats 2000000
namespace Go.Proofs.YtkjabaihpkbfhaaGreat.Wk
open Go Go.RowKit Go.Proofs.YtkjabaihpkbfhaaGreat Go.Proofs.YtkjabaihpkbfhaaGreat.K Go.Proofs Go.Shelf Go.Sort
theorem xp:Go.Proofs.SlLaysF0.n6 Tryz.prog vj:={
 mixed:=(by kernel_rfl)
 f6:=⟨Tryz.f286.name,by decide,Tryz.func286.trans (congrArg some (by kernel_rfl))⟩
 f14:=⟨Tryz.f295.name,by decide,Tryz.func295.trans (congrArg some (by kernel_rfl))⟩
 f15:=Tryz.func175.trans (congrArg some (by kernel_rfl))
 f20:=⟨Tryz.f297.name,by decide,Tryz.func297.trans (congrArg some (by kernel_rfl))⟩
 f21:=⟨Tryz.f298.name,by decide,Tryz.func298.trans (congrArg some (by kernel_rfl))⟩
 f22:=⟨Tryz.f299.name,by decide,Tryz.func299.trans (congrArg some (by kernel_rfl))⟩
 f23:=⟨Tryz.f300.name,by decide,Tryz.func300.trans (congrArg some (by kernel_rfl))⟩
 f24:=⟨Tryz.f301.name,by decide,Tryz.func301.trans (congrArg some (by kernel_rfl))⟩
 f25:=⟨Tryz.f302.name,by decide,Tryz.func302.trans (congrArg some (by kernel_rfl))⟩
 f26:=⟨Tryz.f303.name,by decide,Tryz.func303.trans (congrArg some (by kernel_rfl))⟩
 f27:=⟨Tryz.f304.name,by decide,Tryz.func304.trans (congrArg some (by kernel_rfl))⟩
 f28:=Tryz.func214.trans (congrArg some (by kernel_rfl))
 f29:=Tryz.func215.trans (congrArg some (by kernel_rfl))
 f46:=⟨Tryz.f305.name,by decide,Tryz.func305.trans (congrArg some (by kernel_rfl))⟩
 f47:=Tryz.func306.trans (congrArg some (by kernel_rfl))
 f48:=Tryz.func307.trans (congrArg some (by kernel_rfl))
 f49:=⟨Tryz.f308.name,by decide,Tryz.func308.trans (congrArg some (by kernel_rfl))⟩
 f50:=⟨Tryz.f309.name,by decide,Tryz.func309.trans (congrArg some (by kernel_rfl))⟩
 f57:=⟨Tryz.f310.name,by decide,Tryz.func310.trans (congrArg some (by kernel_rfl))⟩
 t0:=Tryz.underlying0
 a0:=Tryz.isAgg0
 z0:=Tryz.sizeOf0
 v0:=Tryz.zeroValue0
 t3:=Tryz.underlying3
 a3:=Tryz.isAgg3
 z3:=Tryz.sizeOf3
 v3:=Tryz.zeroValue3
 t4:=Tryz.underlying4
 a4:=Tryz.isAgg4
 z4:=Tryz.sizeOf4
 v4:=Tryz.zeroValue4
 t5:=Tryz.underlying5
 a5:=Tryz.isAgg5
 z5:=Tryz.sizeOf5
 v5:=Tryz.zeroValue5
 t9:=Tryz.underlying9
 a9:=Tryz.isAgg9
 z9:=Tryz.sizeOf9
 v9:=Tryz.zeroValue9
 t22:=Tryz.underlying326
 a22:=Tryz.isAgg326
 z22:=Tryz.sizeOf326
 v22:=Tryz.zeroValue326
 t25:=Tryz.underlying397
 a25:=Tryz.isAgg397
 z25:=Tryz.sizeOf397
 v25:=Tryz.zeroValue397
 t39:=Tryz.underlying265
 a39:=Tryz.isAgg265
 z39:=Tryz.sizeOf265
 v39:=Tryz.zeroValue265
 t45:=Tryz.underlying403
 a45:=Tryz.isAgg403
 z45:=Tryz.sizeOf403
 v45:=Tryz.zeroValue403
 t46:=Tryz.underlying404
 a46:=Tryz.isAgg404
 z46:=Tryz.sizeOf404
 v46:=Tryz.zeroValue404
 t50:=Tryz.underlying340
 a50:=Tryz.isAgg340
 z50:=Tryz.sizeOf340
 v50:=Tryz.zeroValue340
 t53:=Tryz.underlying208
 a53:=Tryz.isAgg208
 z53:=Tryz.sizeOf208
 v53:=Tryz.zeroValue208
 t55:=Tryz.underlying333
 a55:=Tryz.isAgg333
 z55:=Tryz.sizeOf333
 v55:=Tryz.zeroValue333
 t66:=Tryz.underlying409
 a66:=Tryz.isAgg409
 z66:=Tryz.sizeOf409
 v66:=Tryz.zeroValue409
 t70:=Tryz.underlying372
 a70:=Tryz.isAgg372
 z70:=Tryz.sizeOf372
 v70:=Tryz.zeroValue372
 t76:=Tryz.underlying412
 a76:=Tryz.isAgg412
 z76:=Tryz.sizeOf412
 v76:=Tryz.zeroValue412
 t77:=Tryz.underlying121
 a77:=Tryz.isAgg121
 z77:=Tryz.sizeOf121
 v77:=Tryz.zeroValue121 }
abbrev qM:={r:aX // 1≤r.1∧r.1≤1000000000}
instance:Inhabited qM:=⟨⟨(1,1),by decide⟩⟩
def yF (r:qM):List Value:=fh r.1
def DK (x y:qM):Int:=x.1.1-y.1.1
theorem F1 (x y:qM):ltOf DK x y=decide (x.1.1<y.1.1):=by unfold ltOf DK;rw[decide_eq_decide];omega
theorem Gp:Go.Sort.SWO (ltOf DK) where
 irrefl x:=by rw[F1];simp
 trans x y z h1 h2:=by rw[F1]at *;simp at *;omega
 ntrans x y z h1 h2:=by rw[F1]at *;simp at *;omega
theorem C1 (x y:qM)(W:World):Calls Tryz.prog 287 #[.agg #[.int .i64 x.1.1,.int .i64 x.1.2],.agg #[.int .i64 y.1.1,.int .i64 y.1.2]] W fun e w'=>e=.returned (.int .i64 (x.1.1-y.1.1))∧∃q os',w'=grow (W.drewN q) os':=by
 have hw:IntKind.i64.wrap (x.1.1-y.1.1)=x.1.1-y.1.1:=by
  have:=x.2;have:=y.2;refine fG ?_ ?_<;>simp[IntKind.min,IntKind.max,IntKind.signed,IntKind.bits]<;>omega
 generalize x.1.1=a1 at hw ⊢
 generalize x.1.2=a2
 generalize y.1.1=b1 at hw ⊢
 generalize y.1.2=b2
 go_enter Tryz.func287,Tryz.ntmps287
 go_wp2
 go_ret
 exact⟨rfl,0,_,by rw[alloc_eq_grow,alloc_eq_grow,grow_grow];rfl⟩
theorem wT (blk off size:Nat)(w:World):CmpLays Tryz.prog 287 #[] yF 2 DK blk off size w:=fun _ _ _ _ x y=>C1 x y _
theorem AW {xs:List aX}(h:∀x∈xs,1≤x.1∧x.1≤x.2∧x.2≤eO):∃gs:List qM,gs.map Subtype.val=xs:=by
 induction xs with
 | nil=>exact⟨[],rfl⟩
 | cons x xs ih =>
   obtain⟨gs,hg⟩:=ih fun y hy=>h y (by simp[hy])
   have hx:=h x (by simp);rw[dq]at hx;exact⟨⟨x,hx.1,by omega⟩::gs,by simp[hg]⟩
theorem CI (gs:List qM):gs.flatMap yF=(gs.map Subtype.val).flatMap fh:=by rw[List.flatMap_map];rfl
theorem qB (W w:World)(L:List As)(A:Option Addr)(c:Nat)(xs:List aX)(hS:Sat W w (dt 357 A c xs::L))(hv:∀x∈xs,1≤x.1∧x.1≤x.2∧x.2≤eO)(hl:xs.length≤1000000000000) :
 Calls Tryz.prog 286 #[.slice A xs.length c,.func (.func 287) #[] #[]] w fun e w'=>e=.returned (.tuple #[])∧∃ys,ys.Perm xs∧ys.Pairwise (fun a b=>a.1≤b.1)∧Sat W w' (dt 357 A c ys::L):=by
 by_cases h0:xs=[]
 ·
  subst h0;exact (AnyF.slices_SortFunc_none xp A c _ w).mono fun e w' ⟨he,hw⟩=>⟨he,[],.refl _,.nil,by rw[hw];exact hS⟩
 ·
  have hpos:0<xs.length:=List.length_pos_iff.2 h0;obtain⟨gs,hg⟩:=AW hv;have hgl:gs.length=xs.length:=by rw[←hg];simp
  have hA:∃b,A=some ⟨b,0,none⟩:=by
   obtain⟨_,h,⟨h1,h2,a,s1,s2,q,r⟩,t⟩:=hS;rcases q with ⟨hv,h3,_⟩ | ⟨b',cap,sp,fr,hv,_⟩
   ·
    omega
   ·
    cases hv;exact⟨_,rfl⟩
  obtain⟨b,rfl⟩:=hA;have hS2:Sat W w (row 357 2 (.slice (some ⟨b,0,none⟩) xs.length c) xs.length (gs.flatMap yF)::L):=by rw[CI,hg];exact hS
  obtain⟨hH,hb1,hb2⟩:=xV (enc:=yF) (fun _=>rfl) hS2 hgl.symm;have eg:∀args w,(callFunc 287 args).run Tryz.prog w=.ok (.enter 287 args) w:=enters_of Tryz.func287 (by kernel_rfl) rfl;have hcon:=AnyQ.slices_SortFunc xp 2 Tryz.isAgg357 Tryz.sizeOf357 yF (fun _=>rfl) (fun x=>ni x.1) DK Gp 287 #[] b 0 c gs.toArray w eg (wT _ _ _ _) hH hb2 (by simp;omega);rw[show gs.toArray.size=xs.length from by simpa using hgl]at hcon;change Calls Tryz.prog 286 _ _ _ at hcon;refine hcon.mono ?_;rintro e w' ⟨he,d',n,os,hp,hs,rfl⟩;have hsz:gs.toArray.size=xs.length:=by simpa using hgl
  rw[←hsz]at hp hs;obtain⟨hp1,hp2⟩:=x3 hp;rw[←hp1]at hs;have hs2:=uw hs;refine⟨he,d'.toList.map Subtype.val,?_,?_,?_⟩
  ·
   rw[←hg];exact (hp2.map _).trans (by simp)
  ·
   rw[List.pairwise_map];refine hs2.imp fun {x y} h=>?_;rw[F1]at h;simp at h;exact h
  ·
   have hS3:=Sat.sorted (m:=n) (enc:=yF) (fun _=>rfl) d' os hS2 hgl.symm (by rw[hp1,hsz,hgl]);rw[CI]at hS3;exact jK hS3 (by simp[hp1,hgl]) rfl
end Go.Proofs.YtkjabaihpkbfhaaGreat.Wk
namespace Go.Proofs.YtkjabaihpkbfhaaGreat.Wk
open Go Go.RowKit Go.Proofs.YtkjabaihpkbfhaaGreat Go.Proofs.YtkjabaihpkbfhaaGreat.K Go.Proofs.YtkjabaihpkbfhaaGreat.T
theorem aP {α:Type}{xs:List α}{i:Nat}{x:α}(h:xs[i]?=some x):xs.take (i+1)=xs.take i++[x]:=by
 have hi:=(List.getElem?_eq_some_iff.1 h).1;rw[List.take_add_one,h];rfl
theorem l9 {α:Type}(ls:List (Loc α))(i:Nat):((ls.take i).flatMap Loc.xs).length≤(ls.flatMap Loc.xs).length:=by
 conv=>rhs;rw[←List.take_append_drop i ls,List.flatMap_append,List.length_append]
 omega
theorem yo {ls:List (Loc aX)}{i:Nat}{l:Loc aX}(hl:ls[i]?=some l)(j:Nat):(fE ((ls.take i).flatMap Loc.xs++l.xs.take j)).length≤(ls.flatMap Loc.xs).length:=by
 refine Nat.le_trans (j3 _) ?_;have h1:=l9 ls (i+1);rw[aP hl,List.flatMap_append,List.length_append]at h1;simp only[List.flatMap_cons,List.flatMap_nil,List.append_nil]at h1;rw[List.length_append,List.length_take];omega
theorem uP (W:World)(A:Option Addr)(c:Nat)(ls:List (Loc aX))(hR:Rd W 1 (.slice A ls.length c) ls.length (ls.flatMap Bz))(hE:∀l∈ls,l.runs W)(hn:ls.length≤1000000000000)(ht:(ls.flatMap Loc.xs).length≤1000000000000):Calls Tryz.prog 277 #[.slice A (ls).length c] W fun e w'=>∃A' c',e=.returned (.slice A' (aq (ls.flatMap Loc.xs)).length c')∧Sat W w' [dt 357 A' c' (aq (ls.flatMap Loc.xs))]:=by
 refine enter Tryz.func277 rfl rfl rfl (.cons (i:=0) rfl .nil) ?_;have hS:=Sat.start W;refine uC 14 ?_;refine u1 4 (au rfl zn) ?_;intro a hA;refine wp_loop_ghost (fun (mm:Nat) a w=>∃(i:Nat) (xs:List aX) (Aa:Option Addr) (ca:Nat),Ag a 50 [(3,.slice Aa (xs).length ca),(13,.slice A (ls).length c),(14,.int .i64 ((ls.length:Nat):Int)),(15,.int .i64 ((i:Nat):Int))]∧Sat W w ([dt 357 Aa ca xs])∧(i≤ls.length)∧(xs=fE ((ls.take i).flatMap Loc.xs))∧mm=ls.length-i) ls.length ?_ ?_
 ·replace hA:=hA.kp [3,13,14,15] rfl;exact⟨0,[],none,0,hA,(hS.bp 357 2),(by omega),(by rfl),by omega⟩
 intro m a w hI;clear hS hA;obtain⟨i,xs,Aa,ca,hA,hS,hi,hx,rfl⟩:=hI;refine rC 2 hA ?_;clear hA a;refine ba 0 0 (aA rfl rfl) ?_ ?_
 ·intro h16;refine uO 10 ?_;obtain⟨A_p,rfl⟩:∃q,A=some q:=(hR.sat hS).aw (by omega);obtain⟨l,hl⟩:∃zz_,ls[i]?=some zz_:=⟨_,List.getElem?_eq_getElem (by omega)⟩;obtain⟨la,lc,lxs⟩:=l;have hlr:gN W la lc lxs:=hE _ (List.mem_of_getElem? hl);intro a hA
  have hll:lxs.length≤1000000000000:=by
   have h1:=l9 ls (i+1);rw[aP hl,List.flatMap_append,List.length_append]at h1;simp only[List.flatMap_cons,List.flatMap_nil,List.append_nil]at h1;omega
  refine o1 0 hA (an (hA.ev rfl) (hA.ev rfl) zn fH (by omega) (by omega)) ?_;clear hA a;refine u1 6 (av rfl iA (bS (hR.sat hS) (B3 hl 0 _ rfl))) ?_;refine u1 4 (au rfl bo) ?_;intro a hA;refine wp_loop_ghost (fun (mm:Nat) a w=>∃(j:Nat) (xs:List aX) (Aa:Option Addr) (ca:Nat),Ag a 50 [(3,.slice Aa (xs).length ca),(13,.slice (some A_p) (ls).length c),(14,.int .i64 ((ls.length:Nat):Int)),(15,.int .i64 ((i:Nat):Int)),(19,.slice la (lxs).length lc),(20,.int .i64 ((lxs.length:Nat):Int)),(21,.int .i64 ((j:Nat):Int))]∧Sat W w ([dt 357 Aa ca xs])∧(j≤lxs.length)∧(xs=fE ((ls.take i).flatMap Loc.xs++lxs.take j))∧mm=lxs.length-j) lxs.length ?_ ?_
  ·replace hA:=hA.kp [3,13,14,15,19,20,21] rfl;exact⟨0,xs,Aa,ca,hA,hS,(by omega),(by rw[hx];simp),by omega⟩
  intro m a w hI;clear hS hA;obtain⟨j,xs,Aa,ca,hA,hS,hj,hx,rfl⟩:=hI;refine rC 2 hA ?_;clear hA a;refine ba 0 0 (aA rfl rfl) ?_ ?_
  ·intro h22;refine uO 10 ?_;obtain⟨la_p,rfl⟩:∃q,la=some q:=(hlr.sat hS).aw (by omega);obtain⟨r,hr⟩:∃zz_,lxs[j]?=some zz_:=⟨_,List.getElem?_eq_getElem (by omega)⟩;have hxl:xs.length≤1000000000000:=by rw[hx];exact Nat.le_trans (yo hl j) ht
   refine u1 0 (an rfl rfl bo bP (by omega) (by omega)) ?_;refine u1 0 (ag (cs:=fh r) rfl iQ bP (fun j u e=>bS (hlr.sat hS) (c6 hr j u e))) ?_;refine uN lW hS ?_;clear hS;intro b7 w hS;refine uW (vs:=[_,_]) (cs':=[_,_]) rfl rfl bP hS ?_;clear hS;intro w hS;refine uO 4 ?_;refine u1 0 (ag (cs:=[_,_]) rfl iQ bP (by exact hS.ab (xs:=[_,_]) rfl)) ?_;refine uF ES rfl (wg w r) ?_;rintro e w ⟨rfl,hT⟩;replace hS:Sat _ _ _:=hS.ah hT;clear hT;refine⟨_,rfl,?_⟩;refine uO 1 ?_;refine u1 0 (ak rfl rfl) ?_;refine lv 0 0 (ak rfl rfl) ?_ ?_
   ·intro h29;intro a hA;simp only[decide_eq_decide,decide_eq_true_eq,decide_eq_false_iff_not,Bool.not_eq_true',Bool.not_eq_false',bne_iff_ne,ne_eq,beq_iff_eq,Bool.not_eq_true,Bool.not_eq_false]at h29;refine goN hA rfl lW hS ?_;clear hA a hS;intro b8 w hS;refine uW (vs:=[_,_]) (cs':=[_,_]) rfl rfl bP hS ?_;clear hS;intro w hS;refine uO 11 ?_;refine u1 0 (ag (cs:=[_,_]) rfl iQ bP (by exact hS.ab (xs:=[_,_]) rfl)) ?_;intro a hA;refine gH (vss:=[[_,_]]) hA rfl rfl bo fv rfl rfl rfl (by simp) rfl hS ?_;clear hA a hS;intro A33 w hS;intro a hA;refine eP hA rfl rfl rfl bo fv rfl (hS.p 3) (hS.rd.src bo (by simp[Value.oneCell'])) (by omega) (by omega) ?_;clear hA a hS;intro A34 c34 w hc34 hS;refine uO 5 ?_;refine u1 2 (aj rfl rfl (by omega) (by omega)) ?_;intro a hA;replace hA:=hA.kp [3,13,14,15,19,20,21] rfl
    have hc:gx r=some (max r.1 1,min r.2 1000000000):=by unfold gx;rw[dq,if_pos h29]
    have e1:=pr (a:=(ls.take i).flatMap Loc.xs++lxs.take j) hc;rw[List.append_assoc,←aP hr,←hx]at e1;refine⟨lxs.length-(j+1),by omega,j+1,xs++[(max r.1 1,min r.2 1000000000)],_,_,?_,jK (jv hS) (by simp) (by simp[fh]),by omega,e1.symm,rfl⟩;rw[List.length_append];exact hA
   ·intro h29;intro a hA;simp only[decide_eq_decide,decide_eq_true_eq,decide_eq_false_iff_not,Bool.not_eq_true',Bool.not_eq_false',bne_iff_ne,ne_eq,beq_iff_eq,Bool.not_eq_true,Bool.not_eq_false]at h29;refine goN hA rfl lW hS ?_;clear hA a hS;intro b8 w hS;refine uW (vs:=[_,_]) (cs':=[_,_]) rfl rfl bP hS ?_;clear hS;intro w hS;refine uO 13 ?_;refine u1 2 (aj rfl rfl (by omega) (by omega)) ?_;intro a hA;replace hA:=hA.kp [3,13,14,15,19,20,21] rfl;have hc:gx r=none:=by unfold gx;rw[dq,if_neg h29]
    have e1:=pw (a:=(ls.take i).flatMap Loc.xs++lxs.take j) hc;rw[List.append_assoc,←aP hr,←hx]at e1;exact⟨lxs.length-(j+1),by omega,j+1,xs,_,_,hA,hS.drop.drop,by omega,e1.symm,rfl⟩
  ·intro h22;refine uO 11 ?_;refine u1 2 (aj rfl rfl (by omega) (by omega)) ?_;intro a hA;replace hA:=hA.kp [3,13,14,15] rfl;refine⟨ls.length-(i+1),by omega,i+1,xs,_,_,hA,hS,by omega,?_,rfl⟩;rw[hx,List.take_of_length_le (show lxs.length≤j by omega),aP hl,List.flatMap_append];simp
 ·intro h16;obtain rfl:i=ls.length:=by omega
  intro a hA;rw[List.take_length]at hx;refine rO 12 hA ?_;clear hA a;refine uF DR rfl (qB _ _ _ Aa ca xs hS (fun x hq=>by rw[hx]at hq;exact p6 x hq) (by rw[hx];exact Nat.le_trans (j3 _) ht)) ?_;clear hS;rintro e w ⟨rfl,ys,hp,hsd,hS⟩;refine⟨_,rfl,?_⟩;intro a hA;rw[←hp.length_eq]at hA;replace hp:ys.Perm (fE (ls.flatMap Loc.xs)):=hx ▸ hp;have hyl:ys.length≤1000000000000:=by rw[hp.length_eq];exact Nat.le_trans (j3 _) ht
  refine rO 11 hA ?_;clear hA a;refine u1 3 (au rfl bo) ?_;intro a hA;replace hA:=hA.kp [10,39,40,41] rfl;refine rC 1 hA ?_;clear hA a;intro a hA;refine wp_loop_ghost (fun (mm:Nat) a w=>∃(k:Nat) (Ao:Option Addr) (co:Nat),Ag a 50 [(10,.slice Ao (((ys.take k).foldl ew [])).length co),(39,.slice Aa (ys).length ca),(40,.int .i64 ((ys.length:Nat):Int)),(41,.int .i64 ((k:Nat):Int))]∧Sat W w ([dt 357 Ao co ((ys.take k).foldl ew []),dt 357 Aa ca ys])∧(k≤ys.length)∧mm=ys.length-k) ys.length ?_ ?_
  ·replace hA:=hA.kp [10,39,40,41] rfl;exact⟨0,none,0,hA,(hS.bp 357 2),(by omega),by omega⟩
  intro m a w hI;clear hS hA;obtain⟨k,Ao,co,hA,hS,hk,rfl⟩:=hI;refine rC 2 hA ?_;clear hA a;refine ba 0 0 (aA rfl rfl) ?_ ?_
  ·intro h42;refine uO 10 ?_;obtain⟨Aa_p,rfl⟩:∃q,Aa=some q:=(hS.p 1).rd.aw (by omega);obtain⟨r,hr⟩:∃zz_,ys[k]?=some zz_:=⟨_,List.getElem?_eq_getElem (by omega)⟩;have huc:=x8 hp hsd k;have hcb:∀x∈(ys.take k).foldl ew [],0≤x.2∧x.2≤1000000000:=fun x hq=>by have:=huc.1.each x hq;rw[dq]at this;omega
   intro a hA
   have hcl:((ys.take k).foldl ew []).length≤1000000000000:=by
    have:=kE (ys.take k) [];simp at this;omega
   refine o1 0 hA (an (hA.ev rfl) (hA.ev rfl) bo bP (by omega) (by omega)) ?_;clear hA a;refine u1 0 (ag (cs:=fh r) rfl iQ bP (fun j u e=>bS (hS.p 1).rd (c6 hr j u e))) ?_;refine uN lW hS ?_;clear hS;intro b12 w hS;refine uW (vs:=[_,_]) (cs':=[_,_]) rfl rfl bP hS ?_;clear hS;intro w hS;refine uO 4 ?_;refine u1 0 (ag (cs:=[_,_]) rfl iQ bP (by exact hS.ab (xs:=[_,_]) rfl)) ?_;refine uF El rfl (zb _ _ _ Ao co ((ys.take k).foldl ew []) r (hS.p 1) hcb hcl) ?_;clear hS;rintro e w ⟨A1,c1,rfl,hS⟩;refine⟨_,rfl,?_⟩;refine uO 5 ?_;refine u1 2 (aj rfl rfl (by omega) (by omega)) ?_;intro a hA;replace hA:=hA.kp [10,39,40,41] rfl;have e1:(ys.take (k+1)).foldl ew []=ew ((ys.take k).foldl ew []) r:=by rw[aP hr,List.foldl_append];rfl
   refine⟨ys.length-(k+1),by omega,k+1,A1,c1,?_,?_,by omega,rfl⟩
   ·rw[e1];exact hA
   ·rw[e1];exact (hS.p 1).drop
  ·intro h42;refine uO 16 ?_;refine bt ?_;have eU:(ys.take k).foldl ew []=aq (ls.flatMap Loc.xs):=by rw[List.take_of_length_le (by omega),yq hp hsd]
   rw[eU]at hS ⊢;exact⟨_,_,rfl,jv hS⟩
theorem CZ (W:World)(B:Option Addr)(d:Nat)(A:Option Addr)(c:Nat)(xs:List aX)(hB:Rd W 1 (.slice B 1 d) 1 [.slice A xs.length c])(hR:gN W A c xs)(hl:xs.length≤1000000000000) :
 Calls Tryz.prog 277 #[.slice B 1 d] W fun e w'=>∃A' c',e=.returned (.slice A' (aq xs).length c')∧Sat W w' [dt 357 A' c' (aq xs)]:=by
 have h:=uP W B d [(⟨A,c,xs⟩:Loc aX)] hB (fun l h=>by simp at h;subst h;exact hR) (by simp) (by simpa using hl);rw[show [(⟨A,c,xs⟩:Loc aX)].flatMap Loc.xs=xs from by simp]at h;exact h
theorem sO {ns:List aX}(h:∀r,ns[0]?=some r→r.1≠1):aQ ns=(0,ns):=by
 cases ns with
 | nil=>rfl
 | cons r l=>rw[ie,if_neg (h r rfl)]
theorem zB {ns:List aX}{r:aX}(h:ns[0]?=some r)(h1:r.1=1):aQ ns=(r.2,ns.drop 1):=by
 cases ns with
 | nil=>simp at h
 | cons x l=>simp at h;subst h;rw[ie,if_pos h1];rfl
theorem tl (l m:List aX):de (l++m)=de l+de m:=by
 unfold de
 induction l with
 | nil=>simp
 | cons x l ih=>simp only[List.cons_append,List.foldr_cons,ih];omega
theorem vd {l:List aX}(h:can l)(i:Nat):0≤de (l.take i)∧de (l.take i)≤1000000000:=by
 have hc:can (l.take i):=ue (m:=l.drop i) (by rw[List.take_append_drop];exact h);refine⟨(fK hc).1,?_⟩;rcases pX hc (Int.le_refl 0) (fun s hs=>by have:=(hc.each s hs).1;omega) with h | h
 ·
  rw[dq]at h;omega
 ·
  rw[h];decide
theorem bT {α:Type}{xs:List α}{i:Nat}{x:α}(h:xs[i]?=some x):xs.drop i=x::xs.drop (i+1):=by
 have hi:=(List.getElem?_eq_some_iff.1 h);rw[List.drop_eq_getElem_cons hi.1,hi.2]
theorem vb (next:Int)(r:aX)(l:List aX):iK next (r::l)=(if next<r.1 then [(next,r.1-1)] else [])++iK (r.2+1) l:=rfl
theorem xT (next:Int):iK next []=if next≤eO then [(next,eO)] else []:=rfl
theorem iw (W:World)(A:Option Addr)(c:Nat)(xs:List aX)(hR:gN W A c xs)(hl:xs.length≤1000000000000):Calls Tryz.prog 253 #[.slice A (xs).length c] W fun e w'=>∃A' c',e=.returned (.slice A' (aq xs).length c')∧Sat W w' [dt 357 A' c' (aq xs)]:=by
 refine enter Tryz.func253 rfl rfl rfl (.cons (i:=0) rfl .nil) ?_;have hS:=Sat.start W;refine uC 8 ?_;intro a hA;refine yk hA rfl rfl zn Eo rfl rfl rfl (by simp[Value.oneCell']) hS ?_;clear hA a hS;intro A4 w hS;refine uF FM rfl (CZ _ _ _ A c xs hS.rd (hR.sat hS) hl) ?_;rintro e w ⟨A1,c1,rfl,hT⟩;replace hS:=hS.ay hT;clear hT;refine⟨_,rfl,?_⟩;refine uO 4 ?_;refine bt ?_;exact⟨_,_,rfl,jv hS⟩
theorem we (W:World)(A:Option Addr)(c:Nat)(xs:List aX)(hR:gN W A c xs)(hl:xs.length≤1000000000000):Calls Tryz.prog 243 #[.slice A (xs).length c] W fun e w'=>∃A' c',e=.returned (.tuple #[.int .i64 (aQ (aq xs)).1,.slice A' (aQ (aq xs)).2.length c'])∧Sat W w' [dt 357 A' c' (aQ (aq xs)).2]:=by
 refine enter Tryz.func243 rfl rfl rfl (.cons (i:=0) rfl .nil) ?_;intro a hA;refine Br fun Q _ hQ=>?_;have hS:=Sat.start W;refine rC 9 hA ?_;clear hA a;refine uF uS rfl (iw _ A c xs (hR.sat hS) hl) ?_;rintro e w ⟨A1,c1,rfl,hT⟩;replace hS:=hS.ay hT;clear hT;have hcn1:=dj xs;have hnl1:=cx xs;generalize hns1:aq xs=ns at hS hcn1 hnl1 ⊢;refine⟨_,rfl,?_⟩;refine uO 7 ?_;refine u1 0 (au rfl bo) ?_;refine ba 0 0 (bN rfl rfl) ?_ ?_
 ·intro h9;refine uO 19 ?_;intro a hA;refine hQ _ _ _ ?_;refine BF hA rfl rfl rfl ?_;have eL:aQ ns=(0,ns):=sO fun q hq=>by rw[List.getElem?_eq_none (by omega)]at hq;cases hq
  rw[hns1,eL];exact⟨_,_,rfl,jv hS⟩
 ·intro h9;refine uO 2 ?_;obtain⟨A1_p,rfl⟩:∃q,A1=some q:=hS.rd.aw (by omega);obtain⟨r,hr⟩:∃zz_,ns[0]?=some zz_:=⟨_,List.getElem?_eq_getElem (by omega)⟩;refine u1 0 (an rfl rfl bo bP (by omega) (by omega)) ?_;refine u1 0 (aJ rfl eB) ?_;refine u1 0 (av rfl bq (bS hS.rd (c6 hr 0 _ rfl))) ?_;refine ba 0 0 (aD rfl rfl) ?_ ?_
  ·intro h15;refine uO 13 ?_;intro a hA;refine hQ _ _ _ ?_;refine BF hA rfl rfl rfl ?_;have eL:aQ ns=(0,ns):=sO fun q hq=>by rw[hr]at hq;cases hq;exact h15
   rw[hns1,eL];exact⟨_,_,rfl,jv hS⟩
  ·intro h15;refine uO 7 ?_;intro a hA;refine bB [] hS (by kernel_rfl) ?_;replace hS:=hS.drew;refine rX [0] hA ?_;clear hA a;refine bF 1 [] rfl (fun w=>(an rfl rfl bo bP (by omega) (by omega))) ?_;refine bF 2 [] rfl (fun w=>(aJ rfl cI)) ?_;refine dH 3 [4] rfl (by exact⟨[],hS⟩) (fun w hT=>have hS:=hT.sat;(av rfl bq (bS hS.rd (c6 hr 1 _ rfl)))) ?_;refine bF 5 [] rfl (fun w=>(yL rfl rfl bo bP (by omega) (by omega))) ?_;intro a hA;refine aG 6 (by kernel_rfl) ?_;refine eF hA rfl rfl Fi rfl (sS _ _ _ _ (ns.drop 1) (B2 hS.rd (by omega)) (by simp) (by simp;omega)) ?_;clear hA a;rintro e w ⟨A2,c2,rfl,hT⟩;replace hS:=hS.ay hT;clear hT;refine⟨_,rfl,?_⟩;intro a hA;refine⟨.inr fun _=>(by exact⟨[_],hS⟩),?_⟩;refine rX [7,8] hA ?_;clear hA a;intro a hA;refine ai (by kernel_rfl) ?_ _
   refine rE 1 hA ?_;clear hA a;intro a hA;replace hA:=hA.kp [2,3] rfl;refine rC 1 hA ?_;clear hA a;intro a hA;refine hQ _ _ _ ?_;refine BF hA rfl rfl rfl ?_;have eL:=zB hr (by omega);rw[hns1,eL];exact⟨_,_,rfl,jv hS⟩
theorem wv (W:World)(A:Option Addr)(c:Nat)(xs:List aX)(hR:gN W A c xs)(hl:xs.length≤1000000000000):Calls Tryz.prog 204 #[.slice A (xs).length c] W fun e w'=>e=.returned (.int .i64 (de (aq xs)))∧Sat W w' []:=by
 refine enter Tryz.func204 rfl rfl rfl (.cons (i:=0) rfl .nil) ?_;intro a hA;refine Br fun Q _ hQ=>?_;have hS:=Sat.start W;refine rC 14 hA ?_;clear hA a;refine uF uS rfl (iw _ A c xs (hR.sat hS) hl) ?_;rintro e w ⟨A1,c1,rfl,hT⟩;replace hS:=hS.ay hT;clear hT;have hcn1:=dj xs;have hnl1:=cx xs;generalize hns1:aq xs=ns at hS hcn1 hnl1 ⊢;refine⟨_,rfl,?_⟩;refine u1 4 (au rfl bo) ?_;intro a hA;refine wp_loop_ghost (fun (mm:Nat) a w=>∃(i:Nat),Ag a 23 [(3,.int .i64 (de (ns.take i))),(7,.slice A1 (ns).length c1),(8,.int .i64 ((ns.length:Nat):Int)),(9,.int .i64 ((i:Nat):Int))]∧Sat W w ([dt 357 A1 c1 ns])∧(i≤ns.length)∧mm=ns.length-i) ns.length ?_ ?_
 ·replace hA:=hA.kp [3,7,8,9] rfl;exact⟨0,hA,hS,(by omega),by omega⟩
 intro m a w hI;clear hS hA;obtain⟨i,hA,hS,hi,rfl⟩:=hI;refine rC 2 hA ?_;clear hA a;refine ba 0 0 (aA rfl rfl) ?_ ?_
 ·intro h10;refine uO 10 ?_;obtain⟨A1_p,rfl⟩:∃q,A1=some q:=hS.rd.aw (by omega);obtain⟨r,hr⟩:∃zz_,ns[i]?=some zz_:=⟨_,List.getElem?_eq_getElem (by omega)⟩;have hb1:=vd hcn1 i;have hrb:=hcn1.each r (List.mem_of_getElem? hr);intro a hA;rw[dq]at hrb;refine o1 0 hA (an (hA.ev rfl) (hA.ev rfl) bo bP (by omega) (by omega)) ?_;clear hA a;refine u1 0 (ag (cs:=fh r) rfl iQ bP (fun j u e=>bS hS.rd (c6 hr j u e))) ?_;refine uN lW hS ?_;clear hS;intro b5 w hS;refine uW (vs:=[_,_]) (cs':=[_,_]) rfl rfl bP hS ?_;clear hS;intro w hS
  refine uO 4 ?_;refine u1 0 (aa rfl cI) ?_;refine u1 0 (ld rfl bq) ?_;refine u1 0 (aa rfl eB) ?_;refine u1 0 (ld rfl bq) ?_;refine u1 0 (bJ rfl rfl (by omega) (by omega)) ?_;refine u1 0 (aj rfl rfl (by omega) (by omega)) ?_;refine u1 5 (aj rfl rfl (by omega) (by omega)) ?_;refine u1 2 (aj rfl rfl (by omega) (by omega)) ?_;intro a hA;replace hA:=hA.kp [3,7,8,9] rfl;have e1:de (ns.take (i+1))=de (ns.take i)+(r.2-r.1+1):=by rw[aP hr,tl];simp[de]
  refine⟨ns.length-(i+1),by omega,i+1,?_,hS.drop,by omega,rfl⟩;rw[e1];exact hA
 ·intro h10;refine uO 16 ?_;intro a hA;refine hQ _ _ _ ?_;refine z1 hA rfl rfl ?_;have e1:ns.take i=ns:=List.take_of_length_le (by omega);rw[e1,hns1];exact⟨rfl,hS.nil⟩
theorem s7 (W:World)(A:Option Addr)(c:Nat)(xs:List aX)(hR:gN W A c xs)(hl:xs.length≤1000000000000)(hc:can xs):Calls Tryz.prog 403 #[.slice A (xs).length c] W fun e w'=>∃A' c',e=.returned (.slice A' (iK 1 xs).length c')∧Sat W w' [dt 357 A' c' (iK 1 xs)]:=by
 refine enter Tryz.func403 rfl rfl rfl (.cons (i:=0) rfl .nil) ?_;have hS:=Sat.start W;refine uC 19 ?_;refine u1 4 (au rfl bo) ?_;intro a hA;refine wp_loop_ghost (fun (mm:Nat) a w=>∃(i:Nat) (next:Int) (out:List aX) (Ao:Option Addr) (co:Nat),Ag a 37 [(3,.slice Ao (out).length co),(4,.int .i64 next),(7,.slice A (xs).length c),(8,.int .i64 ((xs.length:Nat):Int)),(9,.int .i64 ((i:Nat):Int))]∧Sat W w ([dt 357 Ao co out])∧(i≤xs.length)∧(1≤next)∧(next≤1000000001)∧(out.length≤i)∧(out++iK next (xs.drop i)=iK 1 xs)∧mm=xs.length-i) xs.length ?_ ?_
 ·replace hA:=hA.kp [3,4,7,8,9] rfl;exact⟨0,1,[],none,0,hA,(hS.bp 357 2),(by omega),(by omega),(by omega),(by simp),(by rfl),by omega⟩
 intro m a w hI;clear hS hA;obtain⟨i,next,out,Ao,co,hA,hS,hi,hn1,hn2,hol,ho,rfl⟩:=hI;refine rC 2 hA ?_;clear hA a;refine ba 0 0 (aA rfl rfl) ?_ ?_
 ·intro h10;refine uO 10 ?_;obtain⟨A_p,rfl⟩:∃q,A=some q:=(hR.sat hS).aw (by omega);obtain⟨r,hr⟩:∃zz_,xs[i]?=some zz_:=⟨_,List.getElem?_eq_getElem (by omega)⟩;have hrb:=hc.each r (List.mem_of_getElem? hr);intro a hA;rw[dq]at hrb;refine o1 0 hA (an (hA.ev rfl) (hA.ev rfl) bo bP (by omega) (by omega)) ?_;clear hA a;refine u1 0 (ag (cs:=fh r) rfl iQ bP (fun j u e=>bS (hR.sat hS) (c6 hr j u e))) ?_;refine uN lW hS ?_;clear hS;intro b6 w hS;refine uW (vs:=[_,_]) (cs':=[_,_]) rfl rfl bP hS ?_;clear hS;intro w hS;refine uO 6 ?_;refine u1 0 (aa rfl eB) ?_;refine u1 0 (ld rfl bq) ?_;refine ba 0 0 (aA rfl rfl) ?_ ?_
  ·intro h16;refine uO 6 ?_;refine u1 0 (aa rfl eB) ?_;refine u1 0 (ld rfl bq) ?_;refine u1 0 (bJ rfl rfl (by omega) (by omega)) ?_;intro a hA;refine o1 0 hA (ax hA rfl gZ) ?_;clear hA a;intro a hA;refine gH (vss:=[[_,_]]) hA rfl rfl bo fv rfl rfl rfl (by simp) rfl hS ?_;clear hA a hS;intro A23 w hS;intro a hA;refine eP hA rfl rfl rfl bo fv rfl (hS.p 2) (hS.rd.src bo (by simp[Value.oneCell'])) (by omega) (by omega) ?_;clear hA a hS;intro A24 c24 w hc24 hS;refine uO 4 ?_;refine u1 0 (aa rfl cI) ?_;refine u1 0 (ld rfl bq) ?_;refine u1 5 (aj rfl rfl (by omega) (by omega)) ?_;refine u1 2 (aj rfl rfl (by omega) (by omega)) ?_;intro a hA;replace hA:=hA.kp [3,4,7,8,9] rfl;rw[bT hr,vb,if_pos h16,←List.append_assoc]at ho
   refine⟨xs.length-(i+1),by omega,i+1,r.2+1,out++[(next,r.1-1)],A24,c24,?_,jK (jv hS) (by simp) (by simp[fh]),by omega,by omega,by omega,by simp;omega,ho,rfl⟩;rw[List.length_append];exact hA
  ·intro h16;refine uO 6 ?_;refine u1 0 (aa rfl cI) ?_;refine u1 0 (ld rfl bq) ?_;refine u1 5 (aj rfl rfl (by omega) (by omega)) ?_;refine u1 2 (aj rfl rfl (by omega) (by omega)) ?_;intro a hA;replace hA:=hA.kp [3,4,7,8,9] rfl;rw[bT hr,vb,if_neg h16,List.nil_append]at ho;exact⟨xs.length-(i+1),by omega,i+1,r.2+1,out,Ao,co,hA,hS.drop,by omega,by omega,by omega,by omega,ho,rfl⟩
 ·intro h10;refine uO 13 ?_;refine ba 0 0 (dU rfl rfl) ?_ ?_
  ·intro h30;refine uO 2 ?_;intro a hA;replace hA:=hA.kp [3,4,30] rfl;refine rC 4 hA ?_;clear hA a;intro a hA;refine o1 0 hA (ax hA rfl gZ) ?_;clear hA a;intro a hA;refine gH (vss:=[[_,_]]) hA rfl rfl bo fv rfl rfl rfl (by simp) rfl hS ?_;clear hA a hS;intro A34 w hS;intro a hA;refine eP hA rfl rfl rfl bo fv rfl (hS.p 1) (hS.rd.src bo (by simp[Value.oneCell'])) (by omega) (by omega) ?_;clear hA a hS;intro A35 c35 w hc35 hS;refine uO 10 ?_;refine bt ?_;rw[List.drop_of_length_le (by omega),xT,dq,if_pos h30]at ho;rw[←ho];exact⟨_,_,oz (by simp),jK (jv hS) (by simp) (by simp[fh])⟩
  ·intro h30;refine uO 2 ?_;intro a hA;replace hA:=hA.kp [3,4,30] rfl;refine rC 10 hA ?_;clear hA a;refine bt ?_;rw[List.drop_of_length_le (by omega),xT,dq,if_neg h30,List.append_nil]at ho;rw[←ho];exact⟨_,_,rfl,hS⟩
theorem lD {x y:List aX}{i j:Nat}{p q:aX}(hp:x[i]?=some p)(hq:y[j]?=some q):cC (x.drop i) (y.drop j)=(if max p.1 q.1≤min p.2 q.2 then [(max p.1 q.1,min p.2 q.2)] else [])++(if p.2<q.2 then cC (x.drop (i+1)) (y.drop j) else cC (x.drop i) (y.drop (j+1))):=by
 rw[bT hp,bT hq,mQ]
theorem yx {x y:List aX}{i j:Nat}(h:x.length≤i):cC (x.drop i) (y.drop j)=[]:=by rw[List.drop_of_length_le h];cases y.drop j<;>simp[cC]
theorem yH {x y:List aX}{i j:Nat}(h:y.length≤j):cC (x.drop i) (y.drop j)=[]:=by rw[List.drop_of_length_le h,sE]
theorem wP (W:World)(A:Option Addr)(c:Nat)(xs:List aX)(B:Option Addr)(d:Nat)(ys:List aX)(hX:gN W A c xs)(hY:gN W B d ys)(hlx:xs.length≤1000000000000)(hly:ys.length≤1000000000000):Calls Tryz.prog 402 #[.slice A (xs).length c,.slice B (ys).length d] W fun e w'=>∃A' c',e=.returned (.slice A' (cC (aq xs) (aq ys)).length c')∧Sat W w' [dt 357 A' c' (cC (aq xs) (aq ys))]:=by
 refine enter Tryz.func402 rfl rfl rfl (.cons (i:=0) rfl (.cons (i:=1) rfl .nil)) ?_;intro a hA;refine Br fun Q _ hQ=>?_;have hS:=Sat.start W;refine rC 8 hA ?_;clear hA a;refine uF uS rfl (iw _ A c xs (hX.sat hS) hlx) ?_;rintro e w ⟨A1,c1,rfl,hT⟩;replace hS:=hS.ay hT;clear hT;have hcn1:=dj xs;have hnl1:=cx xs;generalize hns1:aq xs=ns at hS hcn1 hnl1 ⊢;refine⟨_,rfl,?_⟩;refine uO 1 ?_;refine uF uS rfl (iw _ B d ys (hY.sat hS) hly) ?_;rintro e w ⟨A2,c2,rfl,hT⟩;replace hS:=hS.ay hT;clear hT;have hcn2:=dj ys;have hnl2:=cx ys;generalize hns2:aq ys=ms at hS hcn2 hnl2 ⊢;refine⟨_,rfl,?_⟩;refine uO 17 ?_;intro a hA
 refine wp_loop_ghost (fun (mm:Nat) a w=>∃(i j:Nat) (out:List aX) (Ao:Option Addr) (co:Nat),Ag a 73 [(5,.slice A1 (ns).length c1),(6,.slice A2 (ms).length c2),(7,.slice Ao (out).length co),(8,.int .i64 ((i:Nat):Int)),(9,.int .i64 ((j:Nat):Int))]∧Sat W w ([dt 357 Ao co out,dt 357 A2 c2 ms,dt 357 A1 c1 ns])∧(i≤ns.length)∧(j≤ms.length)∧(out.length≤i+j)∧(out++cC (ns.drop i) (ms.drop j)=cC ns ms)∧mm=ns.length+ms.length-(i+j)) (ns.length+ms.length) ?_ ?_
 ·replace hA:=hA.kp [5,6,7,8,9] rfl;exact⟨0,0,[],none,0,hA,(hS.bp 357 2),(by omega),(by omega),(by simp),(by rfl),by omega⟩
 intro m a w hI;clear hS hA;obtain⟨i,j,out,Ao,co,hA,hS,hi,hj,hol,ho,rfl⟩:=hI;refine rC 5 hA ?_;clear hA a;refine u1 0 (au rfl bo) ?_;refine ba 0 0 (aA rfl rfl) ?_ ?_
 ·intro h18;refine uO 3 ?_;refine u1 0 (au rfl bo) ?_;refine ba 0 0 (aA rfl rfl) ?_ ?_
  ·intro h23;obtain⟨p,hp⟩:∃p,ns[i]?=some p:=⟨_,List.getElem?_eq_getElem (by omega)⟩;obtain⟨q,hq⟩:∃q,ms[j]?=some q:=⟨_,List.getElem?_eq_getElem (by omega)⟩;obtain⟨A1_p,rfl⟩:∃q,A1=some q:=(hS.p 2).rd.aw (by omega);obtain⟨A2_p,rfl⟩:∃q,A2=some q:=(hS.p 1).rd.aw (by omega);refine uO 8 ?_;intro a hA;refine bB [24] hS (by kernel_rfl) ?_;replace hS:=hS.drew;refine rX [0,1] hA ?_;clear hA a
   refine bF 2 [] rfl (fun w=>(an rfl rfl bo bP (by omega) (by omega))) ?_;refine bF 3 [] rfl (fun w=>(aJ rfl eB)) ?_;refine dH 4 [5,6] rfl (by exact⟨[],hS⟩) (fun w hT=>have hS:=hT.sat;(av rfl bq (bS (hS.p 2).rd (c6 hp 0 _ rfl)))) ?_;refine bF 7 [] rfl (fun w=>(an rfl rfl bo bP (by omega) (by omega))) ?_;refine bF 8 [] rfl (fun w=>(aJ rfl eB)) ?_;refine dH 9 [] rfl (by exact⟨[],hS⟩) (fun w hT=>have hS:=hT.sat;(av rfl bq (bS (hS.p 1).rd (c6 hq 0 _ rfl)))) ?_;refine bF 10 [11,12] rfl (fun w=>(tP rfl rfl)) ?_;refine bF 13 [] rfl (fun w=>(an rfl rfl bo bP (by omega) (by omega))) ?_;refine bF 14 [] rfl (fun w=>(aJ rfl cI)) ?_;refine dH 15 [16,17] rfl (by exact⟨[],hS⟩) (fun w hT=>have hS:=hT.sat;(av rfl bq (bS (hS.p 2).rd (c6 hp 1 _ rfl)))) ?_;refine bF 18 [] rfl (fun w=>(an rfl rfl bo bP (by omega) (by omega))) ?_;refine bF 19 [] rfl (fun w=>(aJ rfl cI)) ?_;refine dH 20 [] rfl (by exact⟨[],hS⟩) (fun w hT=>have hS:=hT.sat;(av rfl bq (bS (hS.p 1).rd (c6 hq 1 _ rfl)))) ?_;refine bF 21 [] rfl (fun w=>(wD rfl rfl)) ?_
   intro a hA;refine P1 22 [] hA rfl (fun w=>(ax hA rfl gZ)) ?_;clear hA a;intro a hA;refine aG 23 (by kernel_rfl) ?_;refine eN hA rfl rfl lW hS ?_;clear hA a hS;intro b10 w hS;intro a hA;refine⟨.inr fun _=>(by exact⟨[_],hS⟩),?_⟩;refine aG 24 (by kernel_rfl) ?_;refine cK (vs:=[_,_]) (cs':=[_,_]) hA rfl rfl rfl bP (by simp[Value.oneCell']) hS rfl rfl ?_;clear hS;intro w hS;refine⟨.inl rfl,?_⟩;refine ai (by kernel_rfl) ?_ _;refine rE 4 hA ?_;clear hA a;refine u1 0 (aa rfl eB) ?_;refine u1 0 (ld rfl bq) ?_;refine u1 0 (aa rfl cI) ?_;refine u1 0 (ld rfl bq) ?_;refine ba 0 0 (dU rfl rfl) ?_ ?_
   ·intro h52;refine uO 5 ?_;refine u1 0 (ag (cs:=[_,_]) rfl iQ bP (by exact hS.ab (xs:=[_,_]) rfl)) ?_;intro a hA;refine gH (vss:=[[_,_]]) hA rfl rfl bo fv rfl rfl rfl (by simp) rfl hS ?_;clear hA a hS;intro A55 w hS;intro a hA;refine eP hA rfl rfl rfl bo fv rfl (hS.p 2) (hS.rd.src bo (by simp[Value.oneCell'])) (by omega) (by omega) ?_;clear hA a hS;intro A56 c56 w hc56 hS;refine uO 4 ?_;intro a hA;refine cZ (fun w'=>Sat _ w' _) (by kernel_rfl) (by kernel_rfl) hS.drew ?_;refine rQ 2 hA ?_;clear hA a
    refine bC 0 (fun w hS=>(an rfl rfl bo bP (by omega) (by omega))) ?_;refine bC 0 (fun w hS=>(aJ rfl cI)) ?_;refine bC 2 (fun w hS=>(av rfl bq (bS (hS.p 4).rd (c6 hp 1 _ rfl)))) ?_;refine bC 0 (fun w hS=>(an rfl rfl bo bP (by omega) (by omega))) ?_;refine bC 0 (fun w hS=>(aJ rfl cI)) ?_;refine bC 0 (fun w hS=>(av rfl bq (bS (hS.p 3).rd (c6 hq 1 _ rfl)))) ?_;intro a hA;refine K.sq hA rfl rfl rfl (fun w hS=>(aA (hA.ev rfl) (hA.ev rfl))) ?_ ?_
    ·clear hA a;intro h67;intro a hA;refine wpQuiet_nil ?_;clear hS;intro w hS;refine rE 4 hA ?_;clear hA a;refine u1 3 (aj rfl rfl (by omega) (by omega)) ?_;intro a hA;replace hA:=hA.kp [5,6,7,8,9] rfl;rw[lD hp hq,if_pos h52,if_pos h67,←List.append_assoc]at ho;refine⟨ns.length+ms.length-(i+1+(j)),by omega,i+1,j,out++[(max p.1 q.1,min p.2 q.2)],A56,c56,?_,jK (vM (((hS.p 4).p 4).p 2)) (by simp) (by simp[fh]),by omega,by omega,by simp;omega,ho,rfl⟩;rw[List.length_append];exact hA
    ·clear hA a;intro h67;intro a hA;refine wpQuiet_nil ?_;clear hS;intro w hS;refine rE 4 hA ?_;clear hA a;refine u1 3 (aj rfl rfl (by omega) (by omega)) ?_;intro a hA;replace hA:=hA.kp [5,6,7,8,9] rfl;rw[lD hp hq,if_pos h52,if_neg h67,←List.append_assoc]at ho;refine⟨ns.length+ms.length-(i+(j+1)),by omega,i,j+1,out++[(max p.1 q.1,min p.2 q.2)],A56,c56,?_,jK (vM (((hS.p 4).p 4).p 2)) (by simp) (by simp[fh]),by omega,by omega,by simp;omega,ho,rfl⟩;rw[List.length_append];exact hA
   ·intro h52;refine uO 6 ?_;intro a hA;refine cZ (fun w'=>Sat _ w' _) (by kernel_rfl) (by kernel_rfl) hS.drew ?_;refine rQ 2 hA ?_;clear hA a;refine bC 0 (fun w hS=>(an rfl rfl bo bP (by omega) (by omega))) ?_;refine bC 0 (fun w hS=>(aJ rfl cI)) ?_;refine bC 2 (fun w hS=>(av rfl bq (bS (hS.p 3).rd (c6 hp 1 _ rfl)))) ?_;refine bC 0 (fun w hS=>(an rfl rfl bo bP (by omega) (by omega))) ?_;refine bC 0 (fun w hS=>(aJ rfl cI)) ?_;refine bC 0 (fun w hS=>(av rfl bq (bS (hS.p 2).rd (c6 hq 1 _ rfl)))) ?_;intro a hA;refine K.sq hA rfl rfl rfl (fun w hS=>(aA (hA.ev rfl) (hA.ev rfl))) ?_ ?_
    ·clear hA a;intro h67;intro a hA;refine wpQuiet_nil ?_;clear hS;intro w hS;refine rE 4 hA ?_;clear hA a;refine u1 3 (aj rfl rfl (by omega) (by omega)) ?_;intro a hA;replace hA:=hA.kp [5,6,7,8,9] rfl;rw[lD hp hq,if_neg h52,if_pos h67,List.nil_append]at ho;exact⟨ns.length+ms.length-(i+1+(j)),by omega,i+1,j,out,Ao,co,hA,hS.drop,by omega,by omega,by omega,ho,rfl⟩
    ·clear hA a;intro h67;intro a hA;refine wpQuiet_nil ?_;clear hS;intro w hS;refine rE 4 hA ?_;clear hA a;refine u1 3 (aj rfl rfl (by omega) (by omega)) ?_;intro a hA;replace hA:=hA.kp [5,6,7,8,9] rfl;rw[lD hp hq,if_neg h52,if_neg h67,List.nil_append]at ho;exact⟨ns.length+ms.length-(i+(j+1)),by omega,i,j+1,out,Ao,co,hA,hS.drop,by omega,by omega,by omega,ho,rfl⟩
  ·intro h23;refine uO 9 ?_;intro a hA;replace hA:=hA.kp [7] rfl;refine rC 7 hA ?_;clear hA a;intro a hA;refine hQ _ _ _ ?_;refine z1 hA rfl rfl ?_;rw[yH (by omega),List.append_nil]at ho;rw[hns1,hns2,←ho];exact⟨_,_,rfl,jv hS⟩
 ·intro h18;refine uO 14 ?_;intro a hA;replace hA:=hA.kp [7] rfl;refine rC 7 hA ?_;clear hA a;intro a hA;refine hQ _ _ _ ?_;refine z1 hA rfl rfl ?_;rw[yx (by omega),List.append_nil]at ho;rw[hns1,hns2,←ho];exact⟨_,_,rfl,jv hS⟩
theorem pe (W:World)(A:Option Addr)(c:Nat)(xs:List aX)(B:Option Addr)(d:Nat)(ys:List aX)(hX:gN W A c xs)(hY:gN W B d ys)(hlx:xs.length≤100000000000)(hly:ys.length≤100000000000):Calls Tryz.prog 388 #[.slice A (xs).length c,.slice B (ys).length d] W fun e w'=>∃A' c',e=.returned (.slice A' (dK (aq xs) (aq ys)).length c')∧Sat W w' [dt 357 A' c' (dK (aq xs) (aq ys))]:=by
 refine enter Tryz.func388 rfl rfl rfl (.cons (i:=0) rfl (.cons (i:=1) rfl .nil)) ?_;intro a hA;refine Br fun Q _ hQ=>?_;have hS:=Sat.start W;refine rC 9 hA ?_;clear hA a;refine uF uS rfl (iw _ B d ys (hY.sat hS) (by omega)) ?_;rintro e w ⟨A1,c1,rfl,hT⟩;replace hS:=hS.ay hT;clear hT;have hcn1:=dj ys;have hnl1:=cx ys;generalize hns1:aq ys=ns at hS hcn1 hnl1 ⊢;refine⟨_,rfl,?_⟩;refine uF Ff rfl (s7 _ A1 c1 ns hS.rd (by omega) hcn1) ?_;rintro e w ⟨A2,c2,rfl,hT⟩;replace hS:=hS.ay hT;clear hT;refine⟨_,rfl,?_⟩;refine uF FF rfl (wP _ A c xs A2 c2 (iK 1 ns) (hX.sat hS) hS.rd (by omega) (Nat.le_trans (mv ns 1) (by omega))) ?_;rintro e w ⟨A3,c3,rfl,hT⟩;replace hS:=hS.ay hT;clear hT;refine⟨_,rfl,?_⟩;refine uO 4 ?_;intro a hA;refine hQ _ _ _ ?_;refine z1 hA rfl rfl ?_;rw[qZ (tM hcn1)]at hS ⊢
 rw[hns1];exact⟨_,_,rfl,jv hS⟩
theorem tu (W:World)(A:Option Addr)(c:Nat)(xs:List aX)(B:Option Addr)(d:Nat)(ys:List aX)(hX:gN W A c xs)(hY:gN W B d ys)(hlx:xs.length≤100000000000)(hly:ys.length≤100000000000):Calls Tryz.prog 370 #[.slice A (xs).length c,.slice B (ys).length d] W fun e w'=>e=.returned (.bool (decide (dK (aq xs) (aq ys)=[])))∧Sat W w' []:=by
 refine enter Tryz.func370 rfl rfl rfl (.cons (i:=0) rfl (.cons (i:=1) rfl .nil)) ?_;have hS:=Sat.start W;refine uC 9 ?_;refine uF CM rfl (pe _ A c xs B d ys (hX.sat hS) (hY.sat hS) hlx hly) ?_;rintro e w ⟨A3,c3,rfl,hT⟩;replace hS:=hS.ay hT;clear hT;refine⟨_,rfl,?_⟩;refine u1 0 (au rfl bo) ?_;refine u1 4 (bN rfl rfl) ?_;refine bt ?_;refine⟨?_,hS.nil⟩
 congr 2
 rw[decide_eq_decide];constructor
 ·intro h;exact List.eq_nil_of_length_eq_zero (by omega)
 ·intro h;rw[h];rfl
end Go.Proofs.YtkjabaihpkbfhaaGreat.Wk
namespace Go.Proofs.YtkjabaihpkbfhaaGreat.Wk
open Go Go.RowKit Go.Proofs.YtkjabaihpkbfhaaGreat Go.Proofs.YtkjabaihpkbfhaaGreat.K
def fj (vec:List Int)(p:Option aF)(s:aF):Bool:=decide (0≤s.rep) && decide (s.rep<16) && decide (s.lo≤s.hi) && decide (s.hi≤1000000000) && match p with
 | none=>decide (aL vec s.rep.toNat+2≤s.lo)
 | some q=>decide (q.rep≤s.rep) && (if q.rep=s.rep then decide (q.hi+2≤s.lo) else decide (aL vec s.rep.toNat+2≤s.lo))
structure zf (p:aB):Prop where
 len:p.vec.length≤16
 vec:∀v∈p.vec,0≤v∧v≤1000000000
 ad:iC (fj p.vec) none p.ad=true
structure uE (p:aB):Prop extends zf p where
 last:∀v,p.vec.getLast?=some v→v≠0
theorem cP {v:List Int}(h:∀x∈v,0≤x∧x≤1000000000)(r:Nat):0≤aL v r∧aL v r≤1000000000:=by
 unfold aL;cases e:v[r]? with
 | none=>simp
 | some x=>exact h x (List.mem_of_getElem? e)
theorem nX {vec:List Int}:∀ {c:List aF} {p:Option aF},iC (fj vec) p c=true→∀s∈c,0≤s.rep∧s.rep<16∧s.lo≤s.hi∧s.hi≤1000000000
 | s :: c, p, h, t, ht => by
   rw[iC,Bool.and_eq_true]at h;rcases List.mem_cons.1 ht with rfl | ht
   ·
    have h1:=h.1;unfold fj at h1;simp only[Bool.and_eq_true,decide_eq_true_eq]at h1;exact⟨h1.1.1.1.1,h1.1.1.1.2,h1.1.1.2,h1.1.2⟩
   ·
    exact nX h.2 t ht
theorem ny {vec:List Int}(hv:∀r,0≤aL vec r):∀ {c:List aF} {q:aF},iC (fj vec) (some q) c=true→q.lo≤q.hi→aL vec q.rep.toNat+2≤q.lo→∀s∈c,q.rep≤s.rep∧(q.rep=s.rep→q.hi+2≤s.lo)∧aL vec s.rep.toNat+2≤s.lo
 | s :: c, q, h, hq, hq2, t, ht => by
   rw[iC,Bool.and_eq_true]at h;have h1:=h.1;unfold fj at h1;simp only[Bool.and_eq_true,decide_eq_true_eq]at h1
   have hs:aL vec s.rep.toNat+2≤s.lo:=by
    by_cases e:q.rep=s.rep
    ·
     have:=h1.2.2;rw[if_pos e]at this;simp at this;rw[←e];omega
    ·
     have:=h1.2.2;rw[if_neg e]at this;simpa using this
   have hs2:q.rep=s.rep→q.hi+2≤s.lo:=fun e=>by have:=h1.2.2;rw[if_pos e]at this;simpa using this
   rcases List.mem_cons.1 ht with rfl | ht
   ·
    exact⟨h1.2.1,hs2,hs⟩
   ·
    obtain⟨a,b,d⟩:=ny hv h.2 h1.1.1.2 hs t ht;refine⟨by omega,fun e=>?_,d⟩;have e1:q.rep=s.rep:=by omega
    have:=hs2 e1;have:=b (by omega);omega
theorem rG {vec:List Int}(hv:∀r,0≤aL vec r){c:List aF}(h:iC (fj vec) none c=true):∀s∈c,aL vec s.rep.toNat+2≤s.lo:=by
 cases c with
 | nil=>intro s hs;cases hs
 | cons s c =>
   rw[iC,Bool.and_eq_true]at h;have h1:=h.1;unfold fj at h1;simp only[Bool.and_eq_true,decide_eq_true_eq]at h1;intro t ht;rcases List.mem_cons.1 ht with rfl | ht
   ·
    exact h1.2
   ·
    exact (ny hv h.2 h1.1.1.2 h1.2 t ht).2.2
theorem kg (s:aF)(c:List aF)(r:Nat):bc (s::c) r=(if s.rep=(r:Int) then [(s.lo,s.hi)] else [])++bc c r:=by
 unfold bc;rw[List.filterMap_cons]
 split<;>rename_i h<;>split at h<;>simp_all
theorem kQ {c:List aF}{r:Nat}{x:aX}(h:x∈bc c r):∃s∈c,s.rep=(r:Int)∧x=(s.lo,s.hi):=by
 obtain⟨s,hs,h⟩:=List.mem_filterMap.1 h
 split at h
 ·
  rename_i e;cases h;exact⟨s,hs,e,rfl⟩
 ·
  cases h
theorem o9 {vec:List Int}(hv:∀r,0≤aL vec r):∀ {c:List aF} {p:Option aF},iC (fj vec) p c=true→(∀s∈c,aL vec s.rep.toNat+2≤s.lo)→∀r,can (bc c r)
 | [],_,_,_,r=>trivial
 | s :: c, p, h, hb, r => by
   have hsp:=nX h s (by simp);rw[iC,Bool.and_eq_true]at h;have ih:=o9 hv h.2 (fun t ht=>hb t (by simp[ht])) r;rw[kg]
   by_cases e:s.rep=(r:Int)
   ·
    rw[if_pos e];have hs:=hb s (by simp);have:=hv s.rep.toNat;refine⟨by simp only;omega,by simp only;omega,by rw[dq];simp only;omega,fun x hx=>?_,ih⟩;obtain⟨t,ht,h1,rfl⟩:=kQ hx;have:=(ny hv h.2 hsp.2.2.1 hs t ht).2.1 (by omega);simp only;omega
   ·
    rw[if_neg e];exact ih
def mN (p:aB)(r:Nat):List aX:=(if 0<aL p.vec r then [(1,aL p.vec r)] else [])++bc p.ad r
theorem qm {p:aB}(h:zf p)(r:Nat):can (mN p r):=by
 have hv:=fun r=>cP h.vec r
 have hb:=rG (fun r=>(hv r).1) h.ad;have hc:=o9 (fun r=>(hv r).1) h.ad hb r;unfold mN
 split
 ·
  rename_i h0;refine⟨Int.le_refl _,by simp only;omega,by rw[dq];have:=(hv r).2;simp only;omega,fun x hx=>?_,hc⟩;obtain⟨s,hs,e,rfl⟩:=kQ hx;have:=hb s hs;rw[e]at this;simp at this;simp only;omega
 ·
  exact hc
theorem oW {p:aB}(h:zf p)(r:Nat):bf p r=mN p r:=by
 refine (kP (qm h r) fun n=>?_).symm;constructor
 ·
  intro hn;have hb:=(qm h r).bounds hn;refine⟨hb.1,hb.2,?_⟩;unfold mN at hn;unfold bY;rw[cz]at *;rcases hn with hn | hn
  ·
   left
   split at hn
   ·
    rename_i h0;unfold aL at h0 hn;cases e:p.vec[r]? with
    | none=>rw[e]at h0;simp at h0
    | some x=>rw[e]at hn;simpa using hn
   ·
    simp[bn]at hn
  ·
   exact .inr hn
 ·
  rintro ⟨h1,h2,hn⟩;unfold mN;unfold bY at hn;rw[cz]at *;rcases hn with hn | hn
  ·
   left
   cases e:p.vec[r]? with
   | none=>rw[e]at hn;simp[bn]at hn
   | some x =>
     rw[e]at hn;have hx:aL p.vec r=x:=by unfold aL;rw[e]
     rw[hx];simp[bn]at hn;rw[if_pos (by omega)];simp[bn];omega
  ·
   exact .inr hn
theorem sm {p:aB}(h:zf p)(r:Nat):aQ (mN p r)=(aL p.vec r,bc p.ad r):=by
 have hv:=fun r=>cP h.vec r
 unfold mN
 split
 ·
  rfl
 ·
  rename_i h0;have h0:aL p.vec r=0:=by have:=(hv r).1;omega
  rw[List.nil_append,h0];cases e:bc p.ad r with
  | nil=>rfl
  | cons x l =>
    rw[ie];have hx:x∈bc p.ad r:=by rw[e];simp
    obtain⟨s,hs,e2,rfl⟩:=kQ hx;have:=rG (fun r=>(hv r).1) h.ad s hs;rw[e2]at this;simp at this;rw[if_neg (by simp only;omega)]
theorem fI {v:List Int}{r:Nat}(h:v.length≤r):aL v r=0:=by unfold aL;rw[List.getElem?_eq_none h]
theorem qv {v:List Int}(hv:∀x∈v,0≤x∧x≤1000000000)(hl:∀x,v.getLast?=some x→x≠0){f:Nat→Int}(hf:∀r,f r=aL v r):∀k,v.length≤k→bW f k=v.length
 | 0, h => by have : v.length = 0 := by omega
              rw[this];rfl
 | k + 1, h => by
   rw[bW]
   by_cases e:v.length=k+1
   ·
    have hk:k<v.length:=by omega
    have h1:v.getLast?=some v[k]:=by rw[List.getLast?_eq_getElem?,e];simp[hk]
    have h2:=hl _ h1;have h3:=hv v[k] (List.getElem_mem hk);have h4:f k=v[k]:=by rw[hf,aL,List.getElem?_eq_getElem hk]
    rw[if_pos (by omega),e]
   ·
    have h4:f k=0:=by rw[hf,fI (by omega)]
    rw[if_neg (by omega)];exact qv hv hl hf k (by omega)
theorem k8 {α β:Type _}{l:List α}{f g:α→List β}(h:∀x∈l,f x=g x):l.flatMap f=l.flatMap g:=by
 induction l with
 | nil=>rfl
 | cons x l ih=>rw[List.flatMap_cons,List.flatMap_cons,h x (by simp),ih fun y hy=>h y (by simp[hy])]
theorem p7:∀(c:List aF) (a k:Nat),(∀s∈c,(a:Int)≤s.rep∧s.rep<(a+k:Nat))→c.Pairwise (fun s t=>s.rep≤t.rep)→(List.range' a k).flatMap (fun r=>(bc c r).map fun x=>(⟨(r:Int),x.1,x.2⟩:aF))=c
 | [], a, k, _, _ => by
   rw[List.flatMap_eq_nil_iff];intro r _;rfl
 | s :: c, a, k, h, hp => by
   obtain⟨j,hj⟩:∃j:Nat,s.rep=(j:Int):=⟨s.rep.toNat,by have:=(h s (by simp)).1;omega⟩;have hs:=h s (by simp);have hle:=(List.pairwise_cons.1 hp).1
   have e1:List.range' a k=List.range' a (j-a)++(List.range' j 1++List.range' (j+1) (a+k-j-1)):=by
    have h1:k=(j-a)+(1+(a+k-j-1)):=by omega
    have h2:a+1 * (j-a)=j:=by omega
    conv=>lhs;rw[h1,←List.range'_append,h2,←List.range'_append,Nat.mul_one]
   have e2:List.range' j (a+k-j)=List.range' j 1++List.range' (j+1) (a+k-j-1):=by
    have h1:a+k-j=1+(a+k-j-1):=by omega
    conv=>lhs;rw[h1,←List.range'_append,Nat.mul_one]
   have ih:=p7 c j (a+k-j) (fun t ht=>by have:=hle t ht;have:=(h t (by simp[ht])).2;omega) (List.pairwise_cons.1 hp).2;rw[e1,List.flatMap_append]
   have z:(List.range' a (j-a)).flatMap (fun r=>(bc (s::c) r).map fun x=>(⟨(r:Int),x.1,x.2⟩:aF))=[]:=by
    rw[List.flatMap_eq_nil_iff];intro r hr;rw[List.mem_range'_1]at hr;rw[List.map_eq_nil_iff];refine List.filterMap_eq_nil_iff.2 fun t ht=>?_;rw[if_neg];rcases List.mem_cons.1 ht with rfl | ht
    ·
     omega
    ·
     have:=hle t ht;omega
   rw[z,List.nil_append,List.flatMap_append];rw[e2,List.flatMap_append]at ih
   have y:(List.range' (j+1) (a+k-j-1)).flatMap (fun r=>(bc (s::c) r).map fun x=>(⟨(r:Int),x.1,x.2⟩:aF))=(List.range' (j+1) (a+k-j-1)).flatMap (fun r=>(bc c r).map fun x=>(⟨(r:Int),x.1,x.2⟩:aF)):=by
    refine k8 fun r hr=>?_;rw[List.mem_range'_1]at hr;rw[kg,if_neg (by omega),List.nil_append]
   rw[y];simp only[List.range'_one,List.flatMap_cons,List.flatMap_nil,List.append_nil]at ih ⊢;rw[kg,if_pos hj,List.map_append,List.append_assoc,ih,←hj]
   rfl
theorem vk {vec:List Int}(hv:∀r,0≤aL vec r):∀ {c:List aF} {p:Option aF},iC (fj vec) p c=true→(∀s∈c,aL vec s.rep.toNat+2≤s.lo)→c.Pairwise (fun s t=>s.rep≤t.rep)
 | [],_,_,_=>.nil
 | s :: c, p, h, hb => by
   have hsp:=nX h s (by simp);rw[iC,Bool.and_eq_true]at h;exact .cons (fun t ht=>(ny hv h.2 hsp.2.2.1 (hb s (by simp)) t ht).1) (vk hv h.2 fun t ht=>hb t (by simp[ht]))
theorem vq {p:aB}(h:uE p):fw p=p:=by
 have hw:=h.tozf;have hv:=fun r=>cP hw.vec r
 have hl:∀r,bw (bf p) r=aL p.vec r:=fun r=>by unfold bw;rw[oW hw,sm hw]
 have hr:∀r,aN (bf p) r=(bc p.ad r).map fun x=>(⟨(r:Int),x.1,x.2⟩:aF):=fun r=>by unfold aN;rw[oW hw,sm hw]
 unfold fw eY
 have e1:(List.range (bW (bw (bf p)) 16)).map (bw (bf p))=p.vec:=by
  rw[qv hw.vec h.last hl 16 hw.len];refine List.ext_getElem? fun i=>?_;rw[List.getElem?_map]
  by_cases hi:i<p.vec.length
  ·
   rw[List.getElem?_range hi,List.getElem?_eq_getElem hi];simp only[Option.map_some];rw[hl,aL,List.getElem?_eq_getElem hi]
  ·
   rw[List.getElem?_eq_none (by simpa using hi),List.getElem?_eq_none (by omega)];rfl
 have e2:(List.range 16).flatMap (aN (bf p))=p.ad:=by
  rw[List.range_eq_range',k8 (g:=fun r=>(bc p.ad r).map fun x=>(⟨(r:Int),x.1,x.2⟩:aF)) fun r _=>hr r];exact p7 p.ad 0 16 (fun s hs=>by have:=nX hw.ad s hs;omega) (vk (fun r=>(hv r).1) hw.ad (rG (fun r=>(hv r).1) hw.ad))
 rw[e1,e2]
theorem u0 {vec:List Int}{r:Nat}(hr:r<16):∀ {l:List aX} {p:Option aF} {t:List aF},can l→(∀s∈l,aL vec r+2≤s.1)→(∀q,p=some q→q.rep≤(r:Int)∧(q.rep=(r:Int)→∀s∈l,q.hi+2≤s.1))→
 (∀p':Option aF,(∀q,p'=some q→q.rep≤(r:Int))→iC (fj vec) p' t=true)→iC (fj vec) p (l.map (fun s=>(⟨(r:Int),s.1,s.2⟩:aF))++t)=true
 | [],p,t,_,_,hp,ht=>ht p fun q hq=>(hp q hq).1
 | s :: l, p, t, hl, hv, hp, ht => by
   rw[List.map_cons,List.cons_append,iC,Bool.and_eq_true];refine⟨?_,u0 hr hl.tail (fun x hx=>hv x (by simp[hx])) (fun q hq=>?_) ht⟩
   ·
    have h2:=hl.2.1;have h3:=hl.2.2.1;rw[dq]at h3;have hv0:=hv s (by simp);unfold fj;simp only[Bool.and_eq_true,decide_eq_true_eq,Int.toNat_natCast];refine⟨⟨⟨⟨by omega,by omega⟩,h2⟩,h3⟩,?_⟩;cases p with
    | none=>simpa using hv0
    | some q =>
      obtain⟨a,b⟩:=hp q rfl;simp only[Bool.and_eq_true,decide_eq_true_eq];refine⟨a,?_⟩
      split
      ·
       rename_i e;simpa using b e s (by simp)
      ·
       simpa using hv0
   ·
    cases hq;refine⟨Int.le_refl _,fun _ x hx=>?_⟩;have:=hl.2.2.2.1 x hx;simp only;omega
theorem sa {vec:List Int}{f:Nat→List aX}(hf:∀r,can (f r))(hv:∀r,r<16→aL vec r=(aQ (f r)).1):∀(k a:Nat),a+k=16→∀p:Option aF,(∀q,p=some q→q.rep<(a:Int))→iC (fj vec) p ((List.range' a k).flatMap (aN f))=true
 | 0,a,_,p,_=>by simp[iC]
 | k + 1, a, ha, p, hp => by
   rw[List.range'_succ,List.flatMap_cons];obtain⟨_,_,hc,hb,_⟩:=kJ (hf a);refine u0 (by omega) hc (fun s hs=>by rw[hv a (by omega)];have:=hb s hs;omega) (fun q hq=>⟨by have:=hp q hq;omega,fun e=>by have:=hp q hq;omega⟩) fun p' hp'=>?_;exact sa hf hv k (a+1) (by omega) p' fun q hq=>by have:=hp' q hq;omega
theorem pY {f:Nat→List aX}(hf:∀r,can (f r)):uE (eY f):=by
 have hvec:∀r,r<16→aL (eY f).vec r=(aQ (f r)).1:=fun r hr=>by
  unfold eY aL;simp only[List.getElem?_map]
  by_cases h:r<bW (bw f) 16
  ·
   rw[List.getElem?_range h];rfl
  ·
   rw[List.getElem?_eq_none (by simpa using h)];have h1:=mP (bw f) 16 r (by omega) hr;have h2:=(kJ (hf r)).1;unfold bw at h1;show 0=_;omega
 refine⟨⟨?_,fun v hv=>?_,?_⟩,fun v hv=>?_⟩
 ·
  show ((List.range _).map _).length≤16;have:=lq (bw f) 16;simpa using this
 ·
  obtain⟨r,_,rfl⟩:=List.mem_map.1 hv;have h:=kJ (hf r);rw[dq]at h;exact⟨h.1,h.2.1⟩
 ·
  show iC _ none ((List.range 16).flatMap (aN f))=true;rw[List.range_eq_range'];exact sa hf hvec 16 0 rfl none fun q hq=>by cases hq
 ·
  have hv:((List.range (bW (bw f) 16)).map (bw f)).getLast?=some v:=hv;rw[List.getLast?_eq_getElem?,List.getElem?_map]at hv;simp only[List.length_map,List.length_range]at hv;obtain⟨j,hj,rfl⟩:=Option.map_eq_some_iff.1 hv
  have h0:0<bW (bw f) 16:=by
   have:=(List.getElem?_eq_some_iff.1 hj).1;simp at this;omega
  rw[List.getElem?_range (by omega)]at hj;cases hj;have:=sg (bw f) 16 h0;omega
theorem jr (p:aB):uE (fw p):=pY fun r=>bH p r
theorem Bd {p:aB}:fw p=p↔uE p:=⟨fun h=>h ▸ jr p,vq⟩
theorem gu {p:aB}:bK p=true↔uE p:=by unfold bK;rw[decide_eq_true_eq,Bd]
theorem rh {a b:aB}(h1:a.vec=b.vec)(h2:a.ad=b.ad):a=b:=by cases a;cases b;simp only at h1 h2;subst h1 h2;rfl
def Loc.v {α:Type}(l:Loc α):Value:=.slice l.a l.xs.length l.c
def Loc.fR (e:Nat)(l:Loc aX):As:=dt e l.a l.c l.xs
abbrev gE (ty t:Nat)(ls:List (Loc aX)):As:=aS t (.cells (ls.map Loc.v).toArray ty (0,0))
theorem nT {ls:List (Loc aX)}{i e:Nat}{l:Loc aX}(h:ls[i]?=some l):(ls.map (Loc.fR e))[i]?=some (Loc.fR e l):=by rw[List.getElem?_map,h];rfl
theorem eS {W w:World}{L:List As}{ty t i k:Nat}{ls:List (Loc aX)}{l:Loc aX}(s:Sat W w (gE ty t ls::L))(h:ls[i]?=some l)(hk:k=i:=by simp):w.cell? ⟨t,k,none⟩=some (.slice l.a l.xs.length l.c):=by
 subst hk;exact s.pa (by simp[h,Loc.v])
theorem pB {W w:World}{L:List As}{e i:Nat}{ls:List (Loc aX)}{l l':Loc aX}(h:ls[i]?=some l)(s:Sat W w (Loc.fR e l'::bR ((ls.map (Loc.fR e)).eraseIdx i)::L)):Sat W w (bR ((ls.set i l').map (Loc.fR e))::L):=by
 rw[List.map_set];exact Sat.uU (by rw[List.length_map];exact (List.getElem?_eq_some_iff.1 h).1) s
theorem oI {W w:World}{L:List As}{e i:Nat}{ls:List (Loc aX)}{l:Loc aX}(s:Sat W w (bR (ls.map (Loc.fR e))::L))(h:ls[i]?=some l):gN w l.a l.c l.xs:=(s.gy (nT h)).rd
section
variable {P:Program} {ops:Array Oper} {a:Act} {n:Nat} {E:Env} {w W:World} {rest:List Oper} {Q:Exit→Act→World→Prop} {L:List As} {t ty:TypeId} {ps:String} {af:Array Edge} {x y:Operand} {ds:List Deferred}
theorem eT {q:Nat}{K:Act→World→Prop}{tb i t':Nat}{p:Addr}{v:Value}{ls:List (Loc aX)}{l:Loc aX}(l':Loc aX)(hA:Ag a n E ds)(hi':ops[q]?=some ⟨none,.store t x y,ty,ps,af,none⟩)(hx:ez E x=some (.pointer (some p)))(hp:p=⟨tb,i,none⟩)(hy:ez E y=some v)(hv:v=l'.v)(ht:flat P t=true)(h1:(P.info? t).map (·.size)=some 1)
 (s:Sat W w (gE t' tb ls::L)) (hi:ls[i]?=some l) (k:∀w',Sat W w' (gE t' tb (ls.set i l')::L)→K a w'):wpOp P ops Q q K a w:=by
 subst hp hv;refine eW hA hi' hx hy ht h1 rfl s (u:=l.v) (by rw[ln];simp[hi]) fun w' h=>k w' ?_;rw[gE,List.map_set];simpa using h
end
def i7 (ps:List aB)(r:Nat):List aX:=ps.flatMap fun p=>bY p r
def fb (ls:List (Loc aX))(f:Nat→List aX):Prop:=ls.length=16∧∀r l,ls[r]?=some l→l.xs=f r
theorem fb.get {ls:List (Loc aX)}{f:Nat→List aX}(h:fb ls f){r:Nat}(hr:r<16):∃A c,ls[r]?=some ⟨A,c,f r⟩:=by
 have hl:r<ls.length:=by rw[h.1];exact hr
 have:=h.2 r ls[r] (List.getElem?_eq_getElem hl);refine⟨ls[r].a,ls[r].c,?_⟩;rw[List.getElem?_eq_getElem hl,←this]
theorem fb.set {ls:List (Loc aX)}{f g:Nat→List aX}(h:fb ls f){r:Nat}{l:Loc aX}(hl:l.xs=g r)(hg:∀k,k<16→k≠r→g k=f k):fb (ls.set r l) g:=by
 refine⟨by rw[List.length_set];exact h.1,fun k x hx=>?_⟩;have hk:k<16:=by have:=(List.getElem?_eq_some_iff.1 hx).1;rw[List.length_set,h.1]at this;exact this
 by_cases e:r=k
 ·
  subst e;rw[List.getElem?_set_self (by rw[h.1];exact hk)]at hx;cases hx;exact hl
 ·
  rw[List.getElem?_set_ne e]at hx;rw[h.2 k x hx,hg k hk (Ne.symm e)]
theorem fb.congr {ls:List (Loc aX)}{f g:Nat→List aX}(h:fb ls f)(hg:∀k,k<16→f k=g k):fb ls g:=⟨h.1,fun r l hl=>by
 have hr:r<16:=by have:=(List.getElem?_eq_some_iff.1 hl).1;rw[h.1]at this;exact this
 rw[h.2 r l hl,hg r hr]⟩
def kj (v:List Int)(j r:Nat):List aX:=if r<j then (match v[r]? with | some x=>[(1,x)] | none=>[]) else []
theorem yX {v:List Int}{j r:Nat}(hr:r<16)(hj:min v.length 16≤j):kj v j r=match v[r]? with | some x=>[(1,x)] | none=>[]:=by
 unfold kj
 split
 ·
  rfl
 ·
  rename_i h;rw[List.getElem?_eq_none (by omega)]
theorem Da (p:aB){r j k:Nat}(hr:r<16)(hj:min p.vec.length 16≤j)(hk:p.ad.length≤k):kj p.vec j r++bc (p.ad.take k) r=bY p r:=by
 unfold bY;rw[yX hr hj,List.take_of_length_le hk];cases p.vec[r]?<;>rfl
theorem wX {v:List Int}{j:Nat}{x:Int}(h:v[j]?=some x):(∀r,r≠j→kj v (j+1) r=kj v j r)∧kj v (j+1) j=kj v j j++[(1,x)]:=by
 unfold kj;refine⟨fun r hr=>?_,by simp[h]⟩
 by_cases h1:r<j
 ·
  rw[if_pos h1,if_pos (by omega)]
 ·
  rw[if_neg h1,if_neg (by omega)]
theorem wk {c:List aF}{k:Nat}{s:aF}(h:c[k]?=some s)(r:Nat):bc (c.take (k+1)) r=bc (c.take k) r++if s.rep=(r:Int) then [(s.lo,s.hi)] else []:=by
 rw[List.take_add_one,h,kB]
 congr 1
 show bc [s] r=_;unfold bc
 by_cases e:s.rep=(r:Int)
 ·
  simp[e]
 ·
  simp[e]
theorem vO (ps:List aB)(p:aB)(r:Nat):i7 (ps++[p]) r=i7 ps r++bY p r:=by simp[i7]
theorem fF (p:aB)(r:Nat):(bY p r).length≤p.ad.length+1:=by
 unfold bY bc;rw[List.length_append];have:=List.length_filterMap_le (fun s:aF=>if s.rep=(r:Int) then some (s.lo,s.hi) else none) p.ad
 split<;>simp<;>omega
def cm (ps:List aB):Nat:=(ps.map fun p=>p.ad.length+1).sum
theorem ke (ps:List aB)(r:Nat):(i7 ps r).length≤cm ps:=by
 induction ps with
 | nil=>simp[i7,cm]
 | cons p ps ih =>
   have:=fF p r;unfold i7 cm at *;simp only[List.flatMap_cons,List.length_append,List.map_cons,List.sum_cons];omega
theorem yp {ps:List aB}{i:Nat}{p:aB}(h:ps[i]?=some p):cm (ps.take i)+(p.ad.length+1)≤cm ps:=by
 conv=>rhs;rw[←List.take_append_drop i ps]
 have e:ps.drop i=p::ps.drop (i+1):=by
  have hi:=List.getElem?_eq_some_iff.1 h;rw[List.drop_eq_getElem_cons hi.1,hi.2]
 rw[e];unfold cm;rw[List.map_append,List.sum_append,List.map_cons,List.sum_cons];omega
def sh:Loc aX:=⟨none,0,[]⟩
theorem oB {W w:World}{L:List As}(e:Nat)(s:Sat W w L):∀n,Sat W w (bR ((List.replicate n sh).map (Loc.fR e))::L)
 | 0=>s.jC
 | n+1=>((oB e s n).bp e 2).oC
theorem oY:fb (List.replicate 16 sh) (fun _=>[]):=⟨by simp,fun r l h=>by
 have:=List.mem_of_getElem? h;rw[List.eq_of_mem_replicate this];rfl⟩
def iN (T:List aB)(d:aB)(j k r:Nat):List aX:=i7 T r++(kj d.vec j r++bc (d.ad.take k) r)
theorem y1 (T:List aB)(d:aB)(r:Nat):iN T d 0 0 r=i7 T r:=by simp[iN,kj,bc]
theorem uJ {T:List aB}{d:aB}{j:Nat}{v:Int}(h:d.vec[j]?=some v):(∀r,r≠j→iN T d (j+1) 0 r=iN T d j 0 r)∧iN T d (j+1) 0 j=iN T d j 0 j++[(1,v)]:=by
 obtain⟨h1,h2⟩:=wX h;unfold iN;refine⟨fun r hr=>by rw[h1 r hr],by rw[h2];simp[bc]⟩
theorem j2 {T:List aB}{d:aB}{j k:Nat}{s:aF}(h:d.ad[k]?=some s)(r:Nat):iN T d j (k+1) r=iN T d j k r++if s.rep=(r:Int) then [(s.lo,s.hi)] else []:=by
 unfold iN;rw[wk h r];simp only[List.append_assoc]
theorem zi {T:List aB}{d:aB}{r k:Nat}(hr:r<16)(hk:d.ad.length≤k):iN T d (min d.vec.length 16) k r=i7 (T++[d]) r:=by
 unfold iN;rw[vO,Da d hr (Nat.le_refl _) hk]
theorem yT (v:List Int)(j r:Nat):(kj v j r).length≤1:=by
 unfold kj
 split
 ·
  split<;>simp
 ·
  simp
theorem uL (c:List aF)(r:Nat):(bc c r).length≤c.length:=List.length_filterMap_le _ _
theorem u7 (T:List aB)(d:aB)(j k r:Nat):(iN T d j k r).length≤cm T+(d.ad.length+1):=by
 unfold iN;have h1:=ke T r;have h2:=uL (d.ad.take k) r;have h3:=yT d.vec j r;rw[List.length_take]at h2;rw[List.length_append,List.length_append];omega
theorem vo {ps:List PL}{i:Nat}{p:PL}(h:ps[i]?=some p):(ps.map PL.d)[i]?=some p.d:=by rw[List.getElem?_map,h];rfl
theorem yU {W0 W w:World}{L0 M:List As}{ty t i k:Nat}{ls:List (Loc aX)}{l:Loc aX}(s0:Sat W0 W (gE ty t ls::L0))(s:Sat W w M)(h:ls[i]?=some l)(hk:k=i:=by simp):w.cell? ⟨t,k,none⟩=some (.slice l.a l.xs.length l.c):=by
 have h0:=eS s0 h hk;rw[s.below.cell (World.block_lt_of_cell? _ _ h0)];exact h0
theorem C5 {f:Nat→Int}{r:Nat}(hr:r<16)(x:Int)(hx:x=f r):(((List.range r).map f++List.replicate (16-r) 0).map (Value.int .i64)).set r (.int .i64 x)=((List.range (r+1)).map f++List.replicate (16-(r+1)) 0).map (Value.int .i64):=by
 subst hx;rw[show Value.int .i64 (f r)=Value.int .i64 (f r) from rfl,←List.map_set]
 congr 1
 rw[List.set_append_right _ _ (by simp),List.range_succ,List.map_append,List.append_assoc]
 congr 1
 obtain⟨k,hk⟩:∃k,16-r=k+1:=⟨16-r-1,by omega⟩;rw[hk,show 16-(r+1)=k from by omega,List.replicate_succ];simp
theorem lQ (f:Nat→List aX)(r:Nat):(List.range (r+1)).flatMap (aN f)=(List.range r).flatMap (aN f)++aN f r:=by
 rw[List.range_succ,List.flatMap_append];simp
def kv (r:Nat)(x:aX):aF:=⟨(r:Int),x.1,x.2⟩
theorem pC (f:Nat→List aX)(r:Nat):aN f r=(aQ (f r)).2.map (kv r):=rfl
theorem yO {w:World}{A:Option Addr}{n c m:Nat}{cs:List Value}(h:Rd w 1 (.slice A n c) n cs)(hm:m≤n):Rd w 1 (.slice (gR A c 1 0) m c) m (cs.take m):=by
 have:=Rd.Cx h m hm;rwa[Nat.mul_one]at this
theorem Bq {f:Nat→Int}{r:Nat}(hr:r<16):(((List.range r).map f++List.replicate (16-r) 0).map (Value.int .i64))[r]?=some (.int .i64 0):=by
 rw[List.getElem?_map,List.getElem?_append_right (by simp)];obtain⟨k,hk⟩:∃k,16-r=k+1:=⟨16-r-1,by omega⟩;rw[hk];simp[List.replicate_succ]
theorem B6 {f:Nat→Int}{r:Nat}(hr:r≤16):(((List.range r).map f++List.replicate (16-r) 0).map (Value.int .i64)).length=16:=by simp;omega
theorem zC {f:Nat→Int}{m:Nat}(hm:m≤16):(((List.range 16).map f++List.replicate (16-16) 0).map (Value.int .i64)).take m=((List.range m).map f).map (Value.int .i64):=by
 rw[Nat.sub_self,List.replicate_zero,List.append_nil,←List.map_take,←List.map_take,List.take_range,Nat.min_eq_left hm]
theorem oc {fr:Nat→List aX}{B:Nat}(hb:∀r,r<16→(fr r).length≤B):∀r,r≤16→((List.range r).flatMap (aN fun r=>aq (fr r))).length≤r * B
 | 0,_=>by simp
 | r + 1, h => by
   have h1:=oc hb r (by omega);have h2:=hb r (by omega);have h3:=cx (fr r);have h4:=k9 (aq (fr r));rw[lQ,pC,List.length_append,List.length_map,Nat.add_mul];omega
theorem th (p:aB):∀r,0≤((List.range r).map fun r=>de (bf p r)).sum∧((List.range r).map fun r=>de (bf p r)).sum≤(r:Int) * 1000000000
 | 0=>by simp
 | r + 1 => by
   have h:=th p r;have h1:=(fK (bH p r)).1
   have h2:de (bf p r)≤1000000000:=by
    rcases pX (bH p r) (Int.le_refl 0) (fun s hs=>by have:=((bH p r).each s hs).1;omega) with h | h
    ·
     rw[dq]at h;omega
    ·
     rw[h];decide
   rw[List.range_succ,List.map_append,List.sum_append];simp only[List.map_cons,List.map_nil,List.sum_cons,List.sum_nil];omega
theorem sc (p:aB)(r:Nat):((List.range (r+1)).map fun r=>de (bf p r)).sum=((List.range r).map fun r=>de (bf p r)).sum+de (aq (bY p r)):=by
 rw[List.range_succ,List.map_append,List.sum_append];simp[bf]
theorem yA {a b:aB}{r:Nat}(hr:r<16)(h:¬dK (aq (bY a r)) (aq (bY b r))=[]):c4 a b=false:=by
 unfold c4;rw[List.all_eq_false];exact⟨r,List.mem_range.2 hr,fun hd=>h (of_decide_eq_true hd)⟩
theorem wR {a b:aB}(h:∀r,r<16→dK (aq (bY a r)) (aq (bY b r))=[]):c4 a b=true:=by
 unfold c4;rw[List.all_eq_true];intro r hr;exact decide_eq_true (h r (List.mem_range.1 hr))
theorem vp {xs:List aX}(y:List aX)(h:xs.length=0):dK (aq xs) y=[]:=by
 obtain rfl:=List.eq_nil_of_length_eq_zero h;show cC (aq []) _=[];simp[aq,cC]
def iy (l:List ir)(r:Nat):List aX:=l.filterMap fun d=>if dR d.rep d.num=true∧d.rep=(r:Int) then some (d.num,d.num) else none
theorem lk {l:List ir}{i:Nat}{d:ir}(h:l[i]?=some d)(r:Nat):iy (l.take (i+1)) r=iy (l.take i) r++if dR d.rep d.num=true∧d.rep=(r:Int) then [(d.num,d.num)] else []:=by
 rw[List.take_add_one,h];unfold iy;rw[List.filterMap_append]
 congr 1
 by_cases e:dR d.rep d.num=true∧d.rep=(r:Int)
 ·
  rw[if_pos e];simp only[Option.toList,List.filterMap_cons,List.filterMap_nil,if_pos e]
 ·
  rw[if_neg e];simp only[Option.toList,List.filterMap_cons,List.filterMap_nil,if_neg e]
theorem pJ (l:List ir)(r:Nat):(iy l r).length≤l.length:=List.length_filterMap_le _ _
def j5 (fr:Nat→List aX):aB:=eY fun r=>aq (fr r)
theorem yQ (l:List ir):j5 (iy l)=kL l:=by
 unfold j5 kL fw bf;refine mU fun r hr=>vA fun n h1 h2=>?_;unfold bY;simp only[List.getElem?_nil,List.nil_append];unfold iy bc bn;constructor
 ·
  rintro ⟨x,hx,h3,h4⟩;obtain⟨d,hd,he⟩:=List.mem_filterMap.1 hx
  split at he
  ·
   rename_i hc;cases he;exact⟨_,List.mem_filterMap.2 ⟨⟨d.rep,d.num,d.num⟩,List.mem_map.2 ⟨d,hd,rfl⟩,if_pos hc.2⟩,h3,h4⟩
  ·
   cases he
 ·
  rintro ⟨x,hx,h3,h4⟩;obtain⟨s,hs,he⟩:=List.mem_filterMap.1 hx;obtain⟨d,hd,rfl⟩:=List.mem_map.1 hs
  split at he
  ·
   rename_i hc;cases he;simp only at h3 h4 hc;refine⟨_,List.mem_filterMap.2 ⟨d,hd,if_pos ⟨?_,hc⟩⟩,h3,h4⟩;unfold dR;rw[dq]at h2;simp only[Bool.and_eq_true,decide_eq_true_eq];omega
  ·
   cases he
theorem lj (p:aB):(fw p).ad.length≤16 * (p.ad.length+1):=by
 have:=oc (fr:=bY p) (B:=p.ad.length+1) (fun r _=>fF p r) 16 (Nat.le_refl _);exact this
theorem kH:∀(k:Nat) (x y:List aX),x.length+y.length≤k→(cC x y).length≤x.length+y.length
 | _,[],y,_=>by simp[cC]
 | _,_::_,[],_=>by simp[cC]
 | 0,_::_,_::_,h=>by simp at h
 | k + 1, a :: x, b :: y, h => by
   simp only[List.length_cons]at h;rw[mQ,List.length_append];have h1:=kH k x (b::y) (by simp only[List.length_cons];omega);have h2:=kH k (a::x) y (by simp only[List.length_cons];omega);simp only[List.length_cons]at h1 h2 ⊢
   split<;>split<;>simp<;>omega
theorem ng (a b:aB)(r:Nat):(dK (bf a r) (bf b r)).length≤a.ad.length+b.ad.length+3:=by
 unfold dK;have h1:=kH _ (bf a r) (iK 1 (bf b r)) (Nat.le_refl _);have h2:=mv (bf b r) 1;have h3:=cx (bY a r);have h4:=cx (bY b r);have h5:=fF a r;have h6:=fF b r;unfold bf at *;omega
def kF (a b:aB)(r k:Nat):List aX:=if k<r then dK (bf a k) (bf b k) else bY a k
theorem zG (a b:aB)(r:Nat):kF a b r r=bY a r:=if_neg (Nat.lt_irrefl r)
theorem x4 (a b:aB)(r:Nat):kF a b (r+1) r=dK (bf a r) (bf b r):=if_pos (Nat.lt_succ_self r)
theorem yR {a b:aB}{r k:Nat}(h:k≠r):kF a b (r+1) k=kF a b r k:=by
 unfold kF
 by_cases h1:k<r
 ·
  rw[if_pos h1,if_pos (by omega)]
 ·
  rw[if_neg h1,if_neg (by omega)]
theorem wB (a b:aB):j5 (kF a b 16)=jo a b:=by
 unfold j5 jo;refine mU fun r hr=>?_;unfold kF;rw[if_pos hr,qZ (ot (bH a r) (bH b r))]
theorem z6 {a b:aB}(ha:a.ad.length≤10000000000)(hb:b.ad.length≤10000000000):∀r,r<16→(kF a b 16 r).length≤100000000000:=fun r hr=>by
 unfold kF;rw[if_pos hr];have:=ng a b r;omega
end Go.Proofs.YtkjabaihpkbfhaaGreat.Wk
namespace Go.Proofs.YtkjabaihpkbfhaaGreat.Wk
open Go Go.RowKit Go.Proofs.YtkjabaihpkbfhaaGreat Go.Proofs.YtkjabaihpkbfhaaGreat.K Go.Proofs.YtkjabaihpkbfhaaGreat.T
theorem pK (W:World)(A:Option Addr)(c:Nat)(ps:List PL)(hR:zP W A c ps)(hE:∀p∈ps,p.ok W)(hn:ps.length≤1000000000000)(ht:cm (ps.map PL.d)≤1000000000000):Calls Tryz.prog 191 #[.slice A (ps).length c] W fun e w'=>∃t ls,e=.returned (.pointer (some ⟨t,0,none⟩))∧fb ls (i7 (ps.map PL.d))∧Sat W w' [gE 355 t ls,bR (ls.map (Loc.fR 357))]:=by
 refine enter Tryz.func191 rfl rfl rfl (.cons (i:=0) rfl .nil) ?_;have hS:=Sat.start W;refine uC 7 ?_;intro a hA;refine o1 0 hA (ax hA rfl AN) ?_;clear hA a;refine uB rfl hS ?_;clear hS;intro b10 w hS;refine uO 7 ?_;refine u1 4 (au rfl gr) ?_;intro a hA;refine wp_loop_ghost (fun (mm:Nat) a w=>∃(i:Nat) (ls:List (Loc aX)),Ag a 78 [(3,.pointer (some ⟨b10,0,none⟩)),(11,.slice A (ps).length c),(12,.int .i64 ((ps.length:Nat):Int)),(13,.int .i64 ((i:Nat):Int))]∧Sat W w ([gE 355 b10 ls,bR (ls.map (Loc.fR 357))])∧(i≤ps.length)∧(fb ls (i7 ((ps.map PL.d).take i)))∧mm=ps.length-i) ps.length ?_ ?_
 ·replace hA:=hA.kp [3,11,12,13] rfl;have hS1:Sat W w [gE 355 b10 (List.replicate 16 sh),bR ((List.replicate 16 sh).map (Loc.fR 357))]:=(oB 357 hS 16).p 1;exact⟨0,_,hA,hS1,(by omega),(by exact oY),by omega⟩
 intro m a w hI;clear hS hA;obtain⟨i,ls,hA,hS,hi,hT,rfl⟩:=hI;refine rC 2 hA ?_;clear hA a;refine ba 0 0 (aA rfl rfl) ?_ ?_
 ·intro h14;refine uO 10 ?_;obtain⟨A_p,rfl⟩:∃q,A=some q:=(hR.sat hS).aw (by omega);obtain⟨p,hp⟩:∃zz_,ps[i]?=some zz_:=⟨_,List.getElem?_eq_getElem (by omega)⟩;have hpo:=hE p (List.mem_of_getElem? hp);have hsp:=yp (vo hp);obtain⟨va,vc,ca,cc,d⟩:=p;have hpv:rM W va vc d.vec:=hpo.vec;have hpc:gD W ca cc d.ad:=hpo.ad;intro a hA;dsimp only at hsp;refine o1 0 hA (an (hA.ev rfl) (hA.ev rfl) gr aC (by omega) (by omega)) ?_;clear hA a;refine u1 0 (ag (cs:=o7 (⟨va,vc,ca,cc,d⟩:PL)) rfl bj aC (fun j u e=>bS (hR.sat hS) (AV hp j u e))) ?_;refine uN db hS ?_;clear hS;intro b5 w hS;refine uW (vs:=[_,_]) (cs':=[_,_]) rfl rfl aC hS ?_;clear hS;intro w hS;refine uO 5 ?_;refine u1 0 (aa rfl cQ) ?_;refine u1 0 (ld rfl gS) ?_;refine u1 0 (au rfl bu) ?_;refine u1 4 (wD rfl rfl) ?_;intro a hA
  refine wp_loop_ghost (fun (mm:Nat) a w=>∃(j:Nat) (ls:List (Loc aX)),Ag a 78 [(3,.pointer (some ⟨b10,0,none⟩)),(11,.slice (some A_p) (ps).length c),(12,.int .i64 ((ps.length:Nat):Int)),(13,.int .i64 ((i:Nat):Int)),(5,.pointer (some ⟨b5,0,none⟩)),(20,.int .i64 (min (d.vec.length:Int) 16)),(21,.int .i64 ((j:Nat):Int))]∧Sat W w ([aS b5 (.cells #[.slice va d.vec.length vc,.slice ca d.ad.length cc] 63),gE 355 b10 ls,bR (ls.map (Loc.fR 357))])∧(j≤min d.vec.length 16)∧(fb ls (iN ((ps.map PL.d).take i) d j 0))∧mm=min d.vec.length 16-j) (min d.vec.length 16) ?_ ?_
  ·replace hA:=hA.kp [3,11,12,13,5,20,21] rfl;exact⟨0,_,hA,hS,(by omega),(by exact hT.congr fun r hr=>(y1 _ d r).symm),by omega⟩
  intro m a w hI;clear hS hA;obtain⟨j,ls,hA,hS,hj,hT,rfl⟩:=hI;refine rC 2 hA ?_;clear hA a;refine ba 0 0 (aA rfl rfl) ?_ ?_
  ·intro h22;obtain⟨lA,lc,hl⟩:=hT.get (show j<16 by omega);have hlen:=u7 ((ps.map PL.d).take i) d j 0 j;intro a hA;replace hS:Sat W w (dt 357 lA lc (iN ((ps.map PL.d).take i) d j 0 j)::_):=(hS.p 2).gy (nT hl);refine rO 14 hA ?_;clear hA a;intro a hA;refine bB [14,17] hS (by kernel_rfl) ?_;replace hS:=hS.drew;refine rX [0,1,2,3] hA ?_;clear hA a;refine bF 4 [] rfl (fun w=>(aI rfl)) ?_;refine bF 5 [] rfl (fun w=>(bI rfl rfl iY fH (by omega) (by omega))) ?_;refine dH 6 [] rfl (by exact⟨[],hS⟩) (fun w hT=>have hS:=hT.sat;(av rfl iA (eS (hS.p 3) hl))) ?_;refine bF 7 [] rfl (fun w=>(aa rfl cQ)) ?_;refine dH 8 [9] rfl (by exact⟨[],hS⟩) (fun w hT=>have hS:=hT.sat;(ld rfl gS)) ?_;obtain⟨va_p,rfl⟩:∃q,va=some q:=(hpv.sat hS).aw (by omega)
   obtain⟨v,hv⟩:∃zz_,d.vec[j]?=some zz_:=⟨_,List.getElem?_eq_getElem (by omega)⟩;refine bF 10 [] rfl (fun w=>(an rfl rfl bu kz (by omega) (by omega))) ?_;refine dH 11 [] rfl (by exact⟨[],hS⟩) (fun w hT=>have hS:=hT.sat;(av rfl bq (ml (hpv.sat hS) (ey hv)))) ?_;intro a hA;refine P1 12 [] hA rfl (fun w=>(ax hA rfl gZ)) ?_;clear hA a;refine bF 15 [] rfl (fun w=>(aI rfl)) ?_;intro a hA;refine aG 13 (by kernel_rfl) ?_;refine tk (vss:=[[_,_]]) hA rfl rfl rfl bo fv rfl rfl rfl (by simp) rfl hS ?_;clear hA a hS;intro A37 w hS;intro a hA;refine⟨.inr fun _=>(by exact⟨[_],hS⟩),?_⟩;refine aG 14 (by kernel_rfl) ?_;refine eA hA rfl rfl rfl rfl bo fv rfl (hS.p 1) (hS.rd.src bo (by simp[Value.oneCell'])) (by omega) (by omega) ?_;clear hA a hS;intro A38 c38 w hc38 hS;intro a hA;refine⟨.inl rfl,?_⟩
   refine P1 16 [] hA rfl (fun w=>(bI (hA.ev rfl) (hA.ev rfl) iY fH (by omega) (by omega))) ?_;clear hA a;intro a hA;refine aG 17 (by kernel_rfl) ?_;refine eT (i:=j) ⟨A38,c38,iN ((ps.map PL.d).take i) d j 0 j++[(1,v)]⟩ hA rfl rfl (by simp) rfl (by simp[Loc.v]) iA fH (hS.p 4) hl ?_;clear hS;intro w hS;refine⟨.inl rfl,?_⟩;refine ai (by kernel_rfl) ?_ _;refine rE 3 hA ?_;clear hA a;refine u1 2 (aj rfl rfl (by omega) (by omega)) ?_;intro a hA;replace hA:=hA.kp [3,11,12,13,5,20,21] rfl;have hS2:=pB hl (l':=⟨A38,c38,iN ((ps.map PL.d).take i) d j 0 j++[(1,v)]⟩) (jK (((hS.p 4).p 4).p 3) (by simp) (by simp[fh]));refine⟨min d.vec.length 16-(j+1),by omega,j+1,_,hA,vM ((hS2.p 2).p 2),by omega,?_,rfl⟩;exact hT.set (uJ hv).2.symm fun k hk hne=>(uJ hv).1 k hne
  ·intro h22;refine uO 11 ?_;refine u1 0 (aa rfl dg) ?_;refine u1 0 (ld rfl iM) ?_;refine u1 4 (au rfl dZ) ?_;intro a hA;refine wp_loop_ghost (fun (mm:Nat) a w=>∃(k:Nat) (ls:List (Loc aX)),Ag a 78 [(3,.pointer (some ⟨b10,0,none⟩)),(11,.slice (some A_p) (ps).length c),(12,.int .i64 ((ps.length:Nat):Int)),(13,.int .i64 ((i:Nat):Int)),(43,.slice ca (d.ad).length cc),(44,.int .i64 ((d.ad.length:Nat):Int)),(45,.int .i64 ((k:Nat):Int))]∧Sat W w ([gE 355 b10 ls,bR (ls.map (Loc.fR 357))])∧(k≤d.ad.length)∧(fb ls (iN ((ps.map PL.d).take i) d (min d.vec.length 16) k))∧mm=d.ad.length-k) d.ad.length ?_ ?_
   ·replace hA:=hA.kp [3,11,12,13,43,44,45] rfl;exact⟨0,_,hA,hS.drop,(by omega),(by have hj:j=min d.vec.length 16:=(by omega);rw[←hj];exact hT),by omega⟩
   intro m a w hI;clear hS hA;obtain⟨k,ls,hA,hS,hk,hT,rfl⟩:=hI;refine rC 2 hA ?_;clear hA a;refine ba 0 0 (aA rfl rfl) ?_ ?_
   ·intro h46;refine uO 10 ?_;obtain⟨ca_p,rfl⟩:∃q,ca=some q:=(hpc.sat hS).aw (by omega);obtain⟨s,hs⟩:∃zz_,d.ad[k]?=some zz_:=⟨_,List.getElem?_eq_getElem (by omega)⟩;refine u1 0 (an rfl rfl dZ dE (by omega) (by omega)) ?_;refine u1 0 (ag (cs:=iJ s) rfl kA dE (fun j u e=>bS (hpc.sat hS) (et hs j u e))) ?_;refine uN xR hS ?_;clear hS;intro b8 w hS;refine uW (vs:=[_,_,_]) (cs':=[_,_,_]) rfl rfl dE hS ?_;clear hS;intro w hS;refine uO 4 ?_;refine u1 0 (aa rfl fB) ?_;refine u1 0 (ld rfl bq) ?_;refine ba 0 0 (gQ rfl rfl) ?_ ?_
    ·intro h51;refine uO 1 ?_;refine u1 0 (aa rfl fB) ?_;refine u1 0 (ld rfl bq) ?_;refine ba 0 0 (aA rfl rfl) ?_ ?_
     ·intro h55;obtain⟨lA,lc,hl⟩:=hT.get (show s.rep.toNat<16 by omega);have hlen:=u7 ((ps.map PL.d).take i) d (min d.vec.length 16) k s.rep.toNat;intro a hA;replace hS:Sat W w (dt 357 lA lc (iN ((ps.map PL.d).take i) d (min d.vec.length 16) k s.rep.toNat)::_):=(hS.p 2).gy (nT hl);refine rO 4 hA ?_;clear hA a;intro a hA;refine jP [18] (kx W [bR ((ls.map (Loc.fR 357)).eraseIdx s.rep.toNat),aS b8 (.cells #[.int .i64 s.rep,.int .i64 s.lo,.int .i64 s.hi] 219),gE 355 b10 ls]) (by kernel_rfl) ?_;replace hS:=hS.drew;refine rX [0] hA ?_;clear hA a
      refine bF 1 [] rfl (fun w=>(aa rfl fB)) ?_;refine dH 2 [3] rfl (by exact⟨[_],hS⟩) (fun w hT=>have hS:=hT.sat;(ld rfl bq)) ?_;refine bF 4 [] rfl (fun w=>(aa rfl fB)) ?_;refine dH 5 [] rfl (by exact⟨[_],hS⟩) (fun w hT=>have hS:=hT.sat;(ld rfl bq)) ?_;refine bF 6 [] rfl (fun w=>(aI rfl)) ?_;refine bF 7 [] rfl (fun w=>(bI rfl rfl iY fH (by omega) (by omega))) ?_;refine dH 8 [] rfl (by exact⟨[_],hS⟩) (fun w hT=>have hS:=hT.sat;(av rfl iA (eS (hS.p 2) hl))) ?_;refine bF 9 [] rfl (fun w=>(aa rfl lr)) ?_;refine dH 10 [] rfl (by exact⟨[_],hS⟩) (fun w hT=>have hS:=hT.sat;(ld rfl bq)) ?_;refine bF 11 [] rfl (fun w=>(aa rfl lT)) ?_;refine dH 12 [] rfl (by exact⟨[_],hS⟩) (fun w hT=>have hS:=hT.sat;(ld rfl bq)) ?_;intro a hA
      refine P1 13 [] hA rfl (fun w=>(ax hA rfl gZ)) ?_;clear hA a;refine bF 16 [] rfl (fun w=>(aI rfl)) ?_;intro a hA;refine aG 14 (by kernel_rfl) ?_;refine tk (vss:=[[_,_]]) hA rfl rfl rfl bo fv rfl rfl rfl (by simp) rfl hS ?_;clear hA a hS;intro A71 w hS;intro a hA;refine⟨.inr fun _=>(by exact⟨[_,_],hS⟩),?_⟩;refine aG 15 (by kernel_rfl) ?_;refine eA hA rfl rfl rfl rfl bo fv rfl (hS.p 1) (hS.rd.src bo (by simp[Value.oneCell'])) (by omega) (by omega) ?_;clear hA a hS;intro A72 c72 w hc72 hS;intro a hA;refine⟨.inr fun _=>(by exact⟨[_,_],hS⟩),?_⟩;refine P1 17 [] hA rfl (fun w=>(bI (hA.ev rfl) (hA.ev rfl) iY fH (by omega) (by omega))) ?_;clear hA a;intro a hA;refine aG 18 (by kernel_rfl) ?_
      refine eT (i:=s.rep.toNat) ⟨A72,c72,iN ((ps.map PL.d).take i) d (min d.vec.length 16) k s.rep.toNat++[(s.lo,s.hi)]⟩ hA rfl rfl (by simp) rfl (by simp[Loc.v]) iA fH (hS.p 4) hl ?_;clear hS;intro w hS;refine⟨.inl rfl,?_⟩;refine ai (by kernel_rfl) ?_ _;refine rE 3 hA ?_;clear hA a;refine u1 2 (aj rfl rfl (by omega) (by omega)) ?_;intro a hA;replace hA:=hA.kp [3,11,12,13,43,44,45] rfl;have hS2:=pB hl (l':=⟨A72,c72,iN ((ps.map PL.d).take i) d (min d.vec.length 16) k s.rep.toNat++[(s.lo,s.hi)]⟩) (jK ((hS.p 3).p 2) (by simp) (by simp[fh]));refine⟨d.ad.length-(k+1),by omega,k+1,_,hA,rH (hS2.p 1),by omega,?_,rfl⟩;refine hT.set ?_ fun q hq hne=>?_
      ·rw[j2 hs,if_pos (by omega)]
      ·rw[j2 hs,if_neg (by omega),List.append_nil]
     ·intro h55;refine uO 8 ?_;refine u1 2 (aj rfl rfl (by omega) (by omega)) ?_;intro a hA;replace hA:=hA.kp [3,11,12,13,43,44,45] rfl;refine⟨d.ad.length-(k+1),by omega,k+1,ls,hA,hS.drop,by omega,?_,rfl⟩;exact hT.congr fun q hq=>by rw[j2 hs,if_neg (by omega),List.append_nil]
    ·intro h51;refine uO 12 ?_;refine u1 2 (aj rfl rfl (by omega) (by omega)) ?_;intro a hA;replace hA:=hA.kp [3,11,12,13,43,44,45] rfl;refine⟨d.ad.length-(k+1),by omega,k+1,ls,hA,hS.drop,by omega,?_,rfl⟩;exact hT.congr fun q hq=>by rw[j2 hs,if_neg (by omega),List.append_nil]
   ·intro h46;refine uO 11 ?_;refine u1 2 (aj rfl rfl (by omega) (by omega)) ?_;intro a hA;replace hA:=hA.kp [3,11,12,13] rfl;refine⟨ps.length-(i+1),by omega,i+1,ls,hA,hS,by omega,?_,rfl⟩;rw[aP (vo hp)];exact hT.congr fun r hr=>zi hr (by omega)
 ·intro h14;refine uO 16 ?_;refine bt ?_;have hi2:i=ps.length:=by omega
  subst hi2;rw[List.take_of_length_le (by simp)]at hT;exact⟨_,_,rfl,hT,hS⟩
theorem tR (W:World)(A:Option Addr)(n c:Nat)(xs:List Int)(hR:Rd W 1 (.slice A n c) n (xs.map (Value.int .i64)))(hn:n=xs.length)(hl:xs.length≤1000000000000):Calls Tryz.prog 244 #[.slice A n c] W fun e w'=>∃A' c',e=.returned (.slice A' xs.length c')∧Sat W w' [ej 3 A' c' xs]:=by
 refine enter Tryz.func244 rfl rfl rfl (.cons (i:=0) rfl .nil) ?_;have hS:=Sat.start W;refine uC 9 ?_;refine lv 0 0 (wC rfl rfl bu) ?_ ?_
 ·intro h4;refine uO 10 ?_;refine bt ?_;obtain rfl:A=none:=by simpa using h4
  obtain⟨h0,_⟩:=hR.nil;obtain rfl:=List.eq_nil_of_length_eq_zero (by omega:xs.length=0);exact⟨none,0,rfl,hS.bp _ _⟩
 ·intro h4;refine uO 7 ?_;intro a hA;refine Dx hA rfl bu vK hS ?_;clear hA a hS;intro A5 w hS;refine uO 1 ?_;intro a hA;refine eP hA rfl rfl rfl bu vK rfl hS ((hR.sat hS).src bu (zl xs)) (by omega) (by omega) ?_;clear hA a hS;intro A7 c7 w hc7 hS;refine uO 4 ?_;refine bt ?_;simp only[Nat.zero_add,List.nil_append]at hS ⊢;exact⟨_,_,oz hn,jK hS hn rfl⟩
theorem iW (W:World)(W0:World)(L0:List As)(t:Nat)(ls:List (Loc aX))(fr:Nat→List aX)(s0:Sat W0 W (gE 355 t ls::bR (ls.map (Loc.fR 357))::L0))(hT:fb ls fr)(hb:∀r,r<16→(fr r).length≤100000000000):Calls Tryz.prog 192 #[.pointer (some ⟨t,0,none⟩)] W fun e w'=>∃q:PL,e=.returned (.agg #[.slice q.va q.d.vec.length q.vc,.slice q.ca q.d.ad.length q.cc])∧q.d=j5 fr∧Sat W w' [ej 3 q.va q.vc q.d.vec,bG 219 q.ca q.cc q.d.ad]:=by
 refine enter Tryz.func192 rfl rfl rfl (.cons (i:=0) rfl .nil) ?_;have hS:=Sat.start W;refine uC 2 ?_;refine uN db hS ?_;clear hS;intro b2 w hS;refine uO 4 ?_;refine uN db hS ?_;clear hS;intro b3 w hS;refine uO 4 ?_;intro a hA;refine GZ hA rfl rfl rfl bu vK rfl (by decide) (by decide) hS ?_;clear hA a hS;intro b11 w hS;refine uO 15 ?_;intro a hA
 refine wp_loop_ghost (fun (mm:Nat) a w=>∃(r:Nat) (Ac:Option Addr) (cc:Nat),Ag a 59 [(0,.pointer (some ⟨t,0,none⟩)),(2,.pointer (some ⟨b2,0,none⟩)),(3,.pointer (some ⟨b3,0,none⟩)),(4,.slice (some ⟨b11,0,none⟩) 16 16),(5,.int .i64 (((bW (bw (fun r=>aq (fr r))) r):Nat):Int)),(12,.int .i64 ((r:Nat):Int))]∧Sat W w ([aS b3 (.cells #[.slice none 0 0,.slice Ac (((List.range r).flatMap (aN (fun r=>aq (fr r))))).length cc] 63),bG 219 Ac cc ((List.range r).flatMap (aN (fun r=>aq (fr r)))),aS b11 (.cells (((List.range (r)).map (bw (fun r=>aq (fr r)))++List.replicate (16-(r)) 0).map (Value.int .i64)).toArray 3 (0,0)),aS b2 (.cells #[.slice none 0 0,.slice none 0 0] 63)])∧(r≤16)∧mm=16-r) 16 ?_ ?_
 ·replace hA:=hA.kp [0,2,3,4,5,12] rfl;exact⟨0,none,0,hA,(((((hS.bp 219 3).p 3).p 2).p 2).p 3),(by omega),by omega⟩
 intro m a w hI;clear hS hA;obtain⟨r,Ac,cc,hA,hS,hr,rfl⟩:=hI;refine rC 2 hA ?_;clear hA a;refine ba 0 0 (aA rfl rfl) ?_ ?_
 ·intro h13;obtain⟨lA,lc,hl⟩:=hT.get (show r<16 by omega);have hrd:gN W lA lc (fr r):=oI s0.u6 hl;have hbr:=hb r (by omega);have hlead:=kJ (dj (fr r));have hrl:(aQ (aq (fr r))).2.length≤100000000000:=Nat.le_trans (k9 _) (Nat.le_trans (cx _) hbr);have hcl:=oc hb r (by omega);intro a hA;rw[dq]at hlead;refine rO 18 hA ?_;clear hA a;refine u1 0 (aI rfl) ?_;refine u1 0 (bI rfl rfl iY fH (by omega) (by omega)) ?_;refine u1 0 (av rfl iA (yU s0 hS hl)) ?_;refine uF ET rfl (we _ lA lc (fr r) (hrd.sat hS) (by omega)) ?_;rintro e w ⟨A21,c21,rfl,hT2⟩;replace hS:=hS.ay hT2;clear hT2;refine⟨_,rfl,?_⟩;refine uO 1 ?_;refine u1 0 (ak rfl rfl) ?_;refine u1 9 (ak rfl rfl) ?_;refine u1 0 (an rfl rfl bu kz (by omega) (by omega)) ?_;intro a hA
  refine Gr (j:=r) hA rfl (by rw[add_lit];simp) rfl bq kz rfl (hS.p 3) (Bq (by omega)) ?_;clear hS;intro w hS;rw[C5 (f:=(bw (fun r=>aq (fr r)))) (show r<16 by omega) (aQ (aq (fr r))).1 rfl]at hS;refine rO 6 hA ?_;clear hA a;refine ba 0 0 (dW rfl rfl) ?_ ?_
  ·intro h29;refine uO 5 ?_;refine u1 6 (aj rfl rfl (by omega) (by omega)) ?_;refine u1 4 (au rfl bo) ?_;intro a hA
   refine wp_loop_ghost (fun (mm:Nat) a w=>∃(q sz:Nat) (Ac:Option Addr) (cc:Nat),Ag a 59 [(0,.pointer (some ⟨t,0,none⟩)),(2,.pointer (some ⟨b2,0,none⟩)),(3,.pointer (some ⟨b3,0,none⟩)),(4,.slice (some ⟨b11,0,none⟩) 16 16),(5,.int .i64 ((sz:Nat):Int)),(6,.int .i64 ((r:Nat):Int)),(12,.int .i64 ((r:Nat):Int)),(32,.slice A21 ((aQ (aq (fr r))).2).length c21),(33,.int .i64 (((aQ (aq (fr r))).2.length:Nat):Int)),(34,.int .i64 ((q:Nat):Int))]∧Sat W w ([aS b3 (.cells #[.slice none 0 0,.slice Ac ((((List.range r).flatMap (aN (fun r=>aq (fr r))))++((aQ (aq (fr r))).2.take q).map (kv r))).length cc] 63),bG 219 Ac cc (((List.range r).flatMap (aN (fun r=>aq (fr r))))++((aQ (aq (fr r))).2.take q).map (kv r)),dt 357 A21 c21 (aQ (aq (fr r))).2,aS b11 (.cells (((List.range (r+1)).map (bw (fun r=>aq (fr r)))++List.replicate (16-(r+1)) 0).map (Value.int .i64)).toArray 3 (0,0)),aS b2 (.cells #[.slice none 0 0,.slice none 0 0] 63)])∧(q≤(aQ (aq (fr r))).2.length)∧(sz=bW (bw (fun r=>aq (fr r))) (r+1))∧mm=(aQ (aq (fr r))).2.length-q) (aQ (aq (fr r))).2.length ?_ ?_
   ·replace hA:=hA.kp [0,2,3,4,5,6,12,32,33,34] rfl
    have hS1:Sat W w [aS b3 (.cells #[.slice none 0 0,.slice Ac ((((List.range r).flatMap (aN (fun r=>aq (fr r))))++((aQ (aq (fr r))).2.take 0).map (kv r))).length cc] 63),bG 219 Ac cc (((List.range r).flatMap (aN (fun r=>aq (fr r))))++((aQ (aq (fr r))).2.take 0).map (kv r)),dt 357 A21 c21 (aQ (aq (fr r))).2,aS b11 (.cells (((List.range (r+1)).map (bw (fun r=>aq (fr r)))++List.replicate (16-(r+1)) 0).map (Value.int .i64)).toArray 3 (0,0)),aS b2 (.cells #[.slice none 0 0,.slice none 0 0] 63)]:=by
     simp only[List.take_zero,List.map_nil,List.append_nil];exact (((((hS.p 4).p 1).p 2).p 4).p 4)
    exact⟨0,r+1,Ac,cc,hA,hS1,(by omega),(by rw[bW,if_pos (show 0<(bw (fun r=>aq (fr r))) r from h29)]),by omega⟩
   intro m a w hI;clear hS hA;obtain⟨q,sz,Ac,cc,hA,hS,hq,hsz,rfl⟩:=hI;refine rC 2 hA ?_;clear hA a;refine ba 0 0 (aA rfl rfl) ?_ ?_
   ·intro h35;refine uO 10 ?_;obtain⟨A21_p,rfl⟩:∃q,A21=some q:=(hS.p 2).rd.aw (by omega);obtain⟨x,hx⟩:∃zz_,(aQ (aq (fr r))).2[q]?=some zz_:=⟨_,List.getElem?_eq_getElem (by omega)⟩;intro a hA
    have hcl2:(((List.range r).flatMap (aN (fun r=>aq (fr r))))++((aQ (aq (fr r))).2.take q).map (kv r)).length≤r * 100000000000+q:=by
     rw[List.length_append,List.length_map,List.length_take];omega
    refine o1 0 hA (an (hA.ev rfl) (hA.ev rfl) bo bP (by omega) (by omega)) ?_;clear hA a;refine u1 0 (ag (cs:=fh x) rfl iQ bP (fun j u e=>bS (hS.p 2).rd (c6 hx j u e))) ?_;refine uN lW hS ?_;clear hS;intro b10 w hS;refine uW (vs:=[_,_]) (cs':=[_,_]) rfl rfl bP hS ?_;clear hS;intro w hS;refine uO 3 ?_;refine u1 0 (aa rfl dg) ?_;refine u1 1 (ld rfl iM) ?_;refine u1 0 (aa rfl eB) ?_;refine u1 0 (ld rfl bq) ?_;refine u1 0 (aa rfl cI) ?_;refine u1 0 (ld rfl bq) ?_;intro a hA;refine o1 0 hA (ax hA rfl lh) ?_;clear hA a;intro a hA;refine gH (vss:=[[_,_,_]]) hA rfl rfl dZ sd rfl rfl rfl (by simp) rfl hS ?_;clear hA a hS;intro A46 w hS;intro a hA;refine eP hA rfl rfl rfl dZ sd rfl (hS.p 3) (hS.rd.src dZ (by simp[Value.oneCell'])) (by omega) (by omega) ?_
    clear hA a hS;intro A47 c47 w hc47 hS;refine u1 0 (aa rfl dg) ?_;intro a hA;refine jR (cs':=[_,_]) hA rfl rfl iM Dg rfl (hS.p 3) rfl rfl ?_;clear hS;intro w hS;refine rO 4 hA ?_;clear hA a;refine u1 2 (aj rfl rfl (by omega) (by omega)) ?_;intro a hA;replace hA:=hA.kp [0,2,3,4,5,6,12,32,33,34] rfl;have ec:(((List.range r).flatMap (aN (fun r=>aq (fr r))))++((aQ (aq (fr r))).2.take q).map (kv r))++[kv r x]=(((List.range r).flatMap (aN (fun r=>aq (fr r))))++((aQ (aq (fr r))).2.take (q+1)).map (kv r)):=by rw[aP hx,List.map_append,List.append_assoc];rfl
    have hS2:Sat W w (row 219 3 (.slice A47 ((((List.range r).flatMap (aN (fun r=>aq (fr r))))++((aQ (aq (fr r))).2.take q).map (kv r)).length+1) c47) ((((List.range r).flatMap (aN (fun r=>aq (fr r))))++((aQ (aq (fr r))).2.take q).map (kv r)).length+1) _::_):=hS.p 1;refine⟨(aQ (aq (fr r))).2.length-(q+1),by omega,q+1,sz,A47,c47,hA,?_,by omega,hsz,rfl⟩;have el:(((List.range r).flatMap (aN (fun r=>aq (fr r))))++((aQ (aq (fr r))).2.take q).map (kv r)).length+1=(((List.range r).flatMap (aN (fun r=>aq (fr r))))++((aQ (aq (fr r))).2.take (q+1)).map (kv r)).length:=by rw[←ec];simp;omega
    rw[←ec];rw[←ec]at el;have hS3:=jK hS2 (m:=((((List.range r).flatMap (aN (fun r=>aq (fr r))))++((aQ (aq (fr r))).2.take q).map (kv r))++[kv r x]).length) (cs':=((((List.range r).flatMap (aN (fun r=>aq (fr r))))++((aQ (aq (fr r))).2.take q).map (kv r))++[kv r x]).flatMap iJ) el (by simp[iJ,kv]);rw[el]at hS3;exact (((((hS3.p 6).p 6).p 6).p 3).p 4).cA [_,_,_,_,_]
   ·intro h35;refine uO 11 ?_;refine u1 2 (aj rfl rfl (by omega) (by omega)) ?_;intro a hA;replace hA:=hA.kp [0,2,3,4,5,12] rfl;have hq:q=(aQ (aq (fr r))).2.length:=by omega
    have ec:((List.range r).flatMap (aN (fun r=>aq (fr r))))++((aQ (aq (fr r))).2.take q).map (kv r)=(List.range (r+1)).flatMap (aN (fun r=>aq (fr r))):=by rw[lQ,pC,List.take_of_length_le (by omega)]
    rw[ec]at hS;rw[hsz]at hA;exact⟨16-(r+1),by omega,r+1,Ac,cc,hA,((((hS.p 4).p 4).p 3).p 3).cA [_,_,_,_],by omega,rfl⟩
  ·intro h29;refine uO 8 ?_;refine u1 4 (au rfl bo) ?_;intro a hA
   refine wp_loop_ghost (fun (mm:Nat) a w=>∃(q sz:Nat) (Ac:Option Addr) (cc:Nat),Ag a 59 [(0,.pointer (some ⟨t,0,none⟩)),(2,.pointer (some ⟨b2,0,none⟩)),(3,.pointer (some ⟨b3,0,none⟩)),(4,.slice (some ⟨b11,0,none⟩) 16 16),(5,.int .i64 ((sz:Nat):Int)),(6,.int .i64 ((r:Nat):Int)),(12,.int .i64 ((r:Nat):Int)),(32,.slice A21 ((aQ (aq (fr r))).2).length c21),(33,.int .i64 (((aQ (aq (fr r))).2.length:Nat):Int)),(34,.int .i64 ((q:Nat):Int))]∧Sat W w ([aS b3 (.cells #[.slice none 0 0,.slice Ac ((((List.range r).flatMap (aN (fun r=>aq (fr r))))++((aQ (aq (fr r))).2.take q).map (kv r))).length cc] 63),bG 219 Ac cc (((List.range r).flatMap (aN (fun r=>aq (fr r))))++((aQ (aq (fr r))).2.take q).map (kv r)),dt 357 A21 c21 (aQ (aq (fr r))).2,aS b11 (.cells (((List.range (r+1)).map (bw (fun r=>aq (fr r)))++List.replicate (16-(r+1)) 0).map (Value.int .i64)).toArray 3 (0,0)),aS b2 (.cells #[.slice none 0 0,.slice none 0 0] 63)])∧(q≤(aQ (aq (fr r))).2.length)∧(sz=bW (bw (fun r=>aq (fr r))) (r+1))∧mm=(aQ (aq (fr r))).2.length-q) (aQ (aq (fr r))).2.length ?_ ?_
   ·replace hA:=hA.kp [0,2,3,4,5,6,12,32,33,34] rfl
    have hS1:Sat W w [aS b3 (.cells #[.slice none 0 0,.slice Ac ((((List.range r).flatMap (aN (fun r=>aq (fr r))))++((aQ (aq (fr r))).2.take 0).map (kv r))).length cc] 63),bG 219 Ac cc (((List.range r).flatMap (aN (fun r=>aq (fr r))))++((aQ (aq (fr r))).2.take 0).map (kv r)),dt 357 A21 c21 (aQ (aq (fr r))).2,aS b11 (.cells (((List.range (r+1)).map (bw (fun r=>aq (fr r)))++List.replicate (16-(r+1)) 0).map (Value.int .i64)).toArray 3 (0,0)),aS b2 (.cells #[.slice none 0 0,.slice none 0 0] 63)]:=by
     simp only[List.take_zero,List.map_nil,List.append_nil];exact (((((hS.p 4).p 1).p 2).p 4).p 4)
    exact⟨0,(bW (bw (fun r=>aq (fr r))) r),Ac,cc,hA,hS1,(by omega),(by rw[bW,if_neg (show ¬0<(bw (fun r=>aq (fr r))) r from h29)]),by omega⟩
   intro m a w hI;clear hS hA;obtain⟨q,sz,Ac,cc,hA,hS,hq,hsz,rfl⟩:=hI;refine rC 2 hA ?_;clear hA a;refine ba 0 0 (aA rfl rfl) ?_ ?_
   ·intro h35;refine uO 10 ?_;obtain⟨A21_p,rfl⟩:∃q,A21=some q:=(hS.p 2).rd.aw (by omega);obtain⟨x,hx⟩:∃zz_,(aQ (aq (fr r))).2[q]?=some zz_:=⟨_,List.getElem?_eq_getElem (by omega)⟩;intro a hA
    have hcl2:(((List.range r).flatMap (aN (fun r=>aq (fr r))))++((aQ (aq (fr r))).2.take q).map (kv r)).length≤r * 100000000000+q:=by
     rw[List.length_append,List.length_map,List.length_take];omega
    refine o1 0 hA (an (hA.ev rfl) (hA.ev rfl) bo bP (by omega) (by omega)) ?_;clear hA a;refine u1 0 (ag (cs:=fh x) rfl iQ bP (fun j u e=>bS (hS.p 2).rd (c6 hx j u e))) ?_;refine uN lW hS ?_;clear hS;intro b10 w hS;refine uW (vs:=[_,_]) (cs':=[_,_]) rfl rfl bP hS ?_;clear hS;intro w hS;refine uO 3 ?_;refine u1 0 (aa rfl dg) ?_;refine u1 1 (ld rfl iM) ?_;refine u1 0 (aa rfl eB) ?_;refine u1 0 (ld rfl bq) ?_;refine u1 0 (aa rfl cI) ?_;refine u1 0 (ld rfl bq) ?_;intro a hA;refine o1 0 hA (ax hA rfl lh) ?_;clear hA a;intro a hA;refine gH (vss:=[[_,_,_]]) hA rfl rfl dZ sd rfl rfl rfl (by simp) rfl hS ?_;clear hA a hS;intro A46 w hS;intro a hA;refine eP hA rfl rfl rfl dZ sd rfl (hS.p 3) (hS.rd.src dZ (by simp[Value.oneCell'])) (by omega) (by omega) ?_
    clear hA a hS;intro A47 c47 w hc47 hS;refine u1 0 (aa rfl dg) ?_;intro a hA;refine jR (cs':=[_,_]) hA rfl rfl iM Dg rfl (hS.p 3) rfl rfl ?_;clear hS;intro w hS;refine rO 4 hA ?_;clear hA a;refine u1 2 (aj rfl rfl (by omega) (by omega)) ?_;intro a hA;replace hA:=hA.kp [0,2,3,4,5,6,12,32,33,34] rfl;have ec:(((List.range r).flatMap (aN (fun r=>aq (fr r))))++((aQ (aq (fr r))).2.take q).map (kv r))++[kv r x]=(((List.range r).flatMap (aN (fun r=>aq (fr r))))++((aQ (aq (fr r))).2.take (q+1)).map (kv r)):=by rw[aP hx,List.map_append,List.append_assoc];rfl
    have hS2:Sat W w (row 219 3 (.slice A47 ((((List.range r).flatMap (aN (fun r=>aq (fr r))))++((aQ (aq (fr r))).2.take q).map (kv r)).length+1) c47) ((((List.range r).flatMap (aN (fun r=>aq (fr r))))++((aQ (aq (fr r))).2.take q).map (kv r)).length+1) _::_):=hS.p 1;refine⟨(aQ (aq (fr r))).2.length-(q+1),by omega,q+1,sz,A47,c47,hA,?_,by omega,hsz,rfl⟩;have el:(((List.range r).flatMap (aN (fun r=>aq (fr r))))++((aQ (aq (fr r))).2.take q).map (kv r)).length+1=(((List.range r).flatMap (aN (fun r=>aq (fr r))))++((aQ (aq (fr r))).2.take (q+1)).map (kv r)).length:=by rw[←ec];simp;omega
    rw[←ec];rw[←ec]at el;have hS3:=jK hS2 (m:=((((List.range r).flatMap (aN (fun r=>aq (fr r))))++((aQ (aq (fr r))).2.take q).map (kv r))++[kv r x]).length) (cs':=((((List.range r).flatMap (aN (fun r=>aq (fr r))))++((aQ (aq (fr r))).2.take q).map (kv r))++[kv r x]).flatMap iJ) el (by simp[iJ,kv]);rw[el]at hS3;exact (((((hS3.p 6).p 6).p 6).p 3).p 4).cA [_,_,_,_,_]
   ·intro h35;refine uO 11 ?_;refine u1 2 (aj rfl rfl (by omega) (by omega)) ?_;intro a hA;replace hA:=hA.kp [0,2,3,4,5,12] rfl;have hq:q=(aQ (aq (fr r))).2.length:=by omega
    have ec:((List.range r).flatMap (aN (fun r=>aq (fr r))))++((aQ (aq (fr r))).2.take q).map (kv r)=(List.range (r+1)).flatMap (aN (fun r=>aq (fr r))):=by rw[lQ,pC,List.take_of_length_le (by omega)]
    rw[ec]at hS;rw[hsz]at hA;exact⟨16-(r+1),by omega,r+1,Ac,cc,hA,((((hS.p 4).p 4).p 3).p 3).cA [_,_,_,_],by omega,rfl⟩
 ·intro h13;obtain rfl:r=16:=by omega
  have hsz16:=lq (bw (fun r=>aq (fr r))) 16;refine uO 13 ?_;refine ba 0 0 (dW rfl rfl) ?_ ?_
  ·intro h52;refine uO 2 ?_;intro a hA;replace hA:=hA.kp [2,3,4,5,52] rfl;refine rC 4 hA ?_;clear hA a;refine u1 0 (sJ rfl rfl bu kz (by omega) (by omega)) ?_;refine uF Es rfl (tR _ _ _ _ ((List.range (bW (bw (fun r=>aq (fr r))) 16)).map (bw (fun r=>aq (fr r)))) (zC hsz16 ▸ yO ((hS.p 2).Fs (m:=16) (B6 (Nat.le_refl _)) (by decide)).rd hsz16) (by simp) (by simp;omega)) ?_;rintro e w ⟨A3,c3,rfl,hT2⟩;replace hS:=hS.ay hT2;clear hT2;refine⟨_,rfl,?_⟩;refine u1 0 (aa rfl cQ) ?_;intro a hA;refine jR (cs':=[_,_]) hA rfl rfl gS FE rfl (hS.p 1) rfl rfl ?_;clear hS;intro w hS;refine rO 4 hA ?_;clear hA a;refine u1 0 (ag (cs:=[_,_]) rfl bj aC (by exact hS.ab (xs:=[_,_]) rfl)) ?_;refine uW (vs:=[_,_]) (cs':=[_,_]) rfl rfl aC (hS.p 4) ?_;clear hS;intro w hS;refine uO 3 ?_;intro a hA
   refine js hA rfl (cy (cs:=[_,_]) hA rfl bj aC (by exact hS.ab (xs:=[_,_]) rfl)) ?_;exact⟨⟨A3,c3,Ac,cc,j5 fr⟩,rfl,rfl,rH ((hS.p 3).p 3)⟩
  ·intro h52;refine uO 2 ?_;intro a hA;replace hA:=hA.kp [2,3,4,5,52] rfl;refine rC 5 hA ?_;clear hA a;refine u1 0 (ag (cs:=[_,_]) rfl bj aC (by exact hS.ab (xs:=[_,_]) rfl)) ?_;refine uW (vs:=[_,_]) (cs':=[_,_]) rfl rfl aC (hS.p 3) ?_;clear hS;intro w hS;refine uO 3 ?_;intro a hA;refine js hA rfl (cy (cs:=[_,_]) hA rfl bj aC (by exact hS.ab (xs:=[_,_]) rfl)) ?_;have e0:bW (bw (fun r=>aq (fr r))) 16=0:=by omega
   have ef:j5 fr=⟨[],(List.range 16).flatMap (aN (fun r=>aq (fr r)))⟩:=by unfold j5 eY;rw[e0];rfl
   refine⟨⟨none,0,Ac,cc,j5 fr⟩,by rw[ef];rfl,rfl,?_⟩;rw[ef];exact rH (Sat.bp (hS.p 2) 3 1)
def DA (s:aF)(r n:Int):Bool:=decide (s.rep=r) && decide (s.lo≤n) && decide (n≤s.hi)
theorem o3 (c:List aF)(r n:Int):jY c r n=c.any fun s=>DA s r n:=rfl
theorem pd (W:World)(r n:Int)  : Calls Tryz.prog 193 #[.agg #[.int .i64 r,.int .i64 n]] W fun e w'=>e=.returned (.bool (dR r n))∧Sat W w' []:=by
 refine enter Tryz.func193 rfl rfl rfl (.cons (i:=0) rfl .nil) ?_;have hS:=Sat.start W;refine uC 2 ?_;refine uB rfl hS ?_;clear hS;intro b1 w hS;refine uO 5 ?_;refine u1 0 (aa rfl cD) ?_;refine u1 0 (ld rfl bq) ?_;refine ba 0 0 (gQ rfl rfl) ?_ ?_
 ·intro h5;refine uO 1 ?_;refine u1 0 (aa rfl cD) ?_;refine u1 0 (ld rfl bq) ?_;refine ba 0 0 (aA rfl rfl) ?_ ?_
  ·intro h9;refine uO 2 ?_;refine u1 0 (aa rfl cT) ?_;refine u1 0 (ld rfl bq) ?_;refine ba 0 0 (gQ rfl rfl) ?_ ?_
   ·intro h14;refine uO 2 ?_;refine u1 0 (aa rfl cT) ?_;refine u1 0 (ld rfl bq) ?_;refine u1 5 (dU rfl rfl) ?_;refine bt ?_;refine⟨?_,hS.nil⟩;unfold dR
    congr 2
    rw[Bool.eq_iff_iff];simp only[Bool.and_eq_true,decide_eq_true_eq,Bool.false_eq_true,false_iff];omega
   ·intro h14;refine uO 10 ?_;refine bt ?_;refine⟨?_,hS.nil⟩;unfold dR
    congr 2
    rw[Bool.eq_iff_iff];simp only[Bool.and_eq_true,decide_eq_true_eq,Bool.false_eq_true,false_iff];omega
  ·intro h9;refine uO 15 ?_;refine bt ?_;refine⟨?_,hS.nil⟩;unfold dR
   congr 2
   rw[Bool.eq_iff_iff];simp only[Bool.and_eq_true,decide_eq_true_eq,Bool.false_eq_true,false_iff];omega
 ·intro h5;refine uO 19 ?_;refine bt ?_;refine⟨?_,hS.nil⟩;unfold dR
  congr 2
  rw[Bool.eq_iff_iff];simp only[Bool.and_eq_true,decide_eq_true_eq,Bool.false_eq_true,false_iff];omega
theorem yC (W:World)(A:Option Addr)(c:Nat)(xs:List Int)(B:Option Addr)(d:Nat)(ys:List Int)(hX:rM W A c xs)(hY:rM W B d ys)(hlx:xs.length≤1000000000000000)(hly:ys.length≤1000000000000000):Calls Tryz.prog 158 #[.slice A (xs).length c,.slice B (ys).length d] W fun e w'=>e=.returned (.bool (decide (xs=ys)))∧Sat W w' []:=by
 refine enter Tryz.func158 rfl rfl rfl (.cons (i:=0) rfl (.cons (i:=1) rfl .nil)) ?_;have hS:=Sat.start W;refine uC 9 ?_;refine u1 1 (au rfl bu) ?_;refine u1 0 (au rfl bu) ?_;refine ba 0 0 (aD rfl rfl) ?_ ?_
 ·intro h10;refine uO 10 ?_;refine bt ?_;refine⟨?_,hS⟩;rw[decide_eq_false];intro h;rw[h]at h10;omega
 ·intro h10;refine uO 9 ?_;refine u1 4 (au rfl bu) ?_;intro a hA;refine wp_loop_ghost (fun (mm:Nat) a w=>∃(i:Nat),Ag a 26 [(0,.slice A (xs).length c),(1,.slice B (ys).length d),(12,.int .i64 ((xs.length:Nat):Int)),(13,.int .i64 ((i:Nat):Int))]∧Sat W w ([])∧(i≤xs.length)∧(xs.take i=ys.take i)∧mm=xs.length-i) xs.length ?_ ?_
  ·replace hA:=hA.kp [0,1,12,13] rfl;exact⟨0,hA,hS,(by omega),(by rfl),by omega⟩
  intro m a w hI;clear hS hA;obtain⟨i,hA,hS,hi,he,rfl⟩:=hI;refine rC 2 hA ?_;clear hA a;refine ba 0 0 (aA rfl rfl) ?_ ?_
  ·intro h14;refine uO 15 ?_;intro a hA;refine cZ (fun w'=>Sat _ w' _) (by kernel_rfl) (by kernel_rfl) hS.drew ?_;refine rQ 2 hA ?_;clear hA a;obtain⟨A_p,rfl⟩:∃q,A=some q:=(hX.sat hS).aw (by omega);obtain⟨x,hx⟩:∃zz_,xs[i]?=some zz_:=⟨_,List.getElem?_eq_getElem (by omega)⟩;refine bC 0 (fun w hS=>(an rfl rfl bu kz (by omega) (by omega))) ?_;refine bC 2 (fun w hS=>(av rfl bq (ml (hX.sat hS) (ey hx)))) ?_;obtain⟨B_p,rfl⟩:∃q,B=some q:=(hY.sat hS).aw (by omega);obtain⟨y,hy⟩:∃zz_,ys[i]?=some zz_:=⟨_,List.getElem?_eq_getElem (by omega)⟩;refine bC 0 (fun w hS=>(an rfl rfl bu kz (by omega) (by omega))) ?_;refine bC 0 (fun w hS=>(av rfl bq (ml (hY.sat hS) (ey hy)))) ?_;intro a hA;refine K.sq hA rfl rfl rfl (fun w hS=>(aD (hA.ev rfl) (hA.ev rfl))) ?_ ?_
   ·clear hA a;intro h24;intro a hA;refine wpQuiet_nil ?_;clear hS;intro w hS;refine rE 13 hA ?_;clear hA a;refine bt ?_;refine⟨?_,hS⟩;rw[decide_eq_false];intro h;rw[h,hy]at hx;cases hx;omega
   ·clear hA a;intro h24;intro a hA;refine wpQuiet_nil ?_;clear hS;intro w hS;refine rE 6 hA ?_;clear hA a;refine u1 2 (aj rfl rfl (by omega) (by omega)) ?_;intro a hA;replace hA:=hA.kp [0,1,12,13] rfl;refine⟨xs.length-(i+1),by omega,i+1,hA,hS,by omega,?_,rfl⟩;rw[aP hx,aP hy,he,show x=y from by omega]
  ·intro h14;refine uO 15 ?_;refine bt ?_;refine⟨?_,hS⟩;rw[decide_eq_true];rwa[List.take_of_length_le (by omega),List.take_of_length_le (by omega)]at he
theorem za (W:World)(A:Option Addr)(c:Nat)(xs:List aF)(B:Option Addr)(d:Nat)(ys:List aF)(hX:gD W A c xs)(hY:gD W B d ys)(hlx:xs.length≤1000000000000000)(hly:ys.length≤1000000000000000):Calls Tryz.prog 159 #[.slice A (xs).length c,.slice B (ys).length d] W fun e w'=>e=.returned (.bool (decide (xs=ys)))∧Sat W w' []:=by
 refine enter Tryz.func159 rfl rfl rfl (.cons (i:=0) rfl (.cons (i:=1) rfl .nil)) ?_;have hS:=Sat.start W;refine uC 9 ?_;refine u1 1 (au rfl dZ) ?_;refine u1 0 (au rfl dZ) ?_;refine ba 0 0 (aD rfl rfl) ?_ ?_
 ·intro h10;refine uO 10 ?_;refine bt ?_;refine⟨?_,hS⟩;rw[decide_eq_false];intro h;rw[h]at h10;omega
 ·intro h10;refine uO 9 ?_;refine u1 4 (au rfl dZ) ?_;intro a hA;refine wp_loop_ghost (fun (mm:Nat) a w=>∃(i:Nat),Ag a 26 [(0,.slice A (xs).length c),(1,.slice B (ys).length d),(12,.int .i64 ((xs.length:Nat):Int)),(13,.int .i64 ((i:Nat):Int))]∧Sat W w ([])∧(i≤xs.length)∧(xs.take i=ys.take i)∧mm=xs.length-i) xs.length ?_ ?_
  ·replace hA:=hA.kp [0,1,12,13] rfl;exact⟨0,hA,hS,(by omega),(by rfl),by omega⟩
  intro m a w hI;clear hS hA;obtain⟨i,hA,hS,hi,he,rfl⟩:=hI;refine rC 2 hA ?_;clear hA a;refine ba 0 0 (aA rfl rfl) ?_ ?_
  ·intro h14;refine uO 15 ?_;intro a hA;refine cZ (fun w'=>Sat _ w' _) (by kernel_rfl) (by kernel_rfl) hS.drew ?_;refine rQ 2 hA ?_;clear hA a;obtain⟨A_p,rfl⟩:∃q,A=some q:=(hX.sat hS).aw (by omega);obtain⟨x,hx⟩:∃zz_,xs[i]?=some zz_:=⟨_,List.getElem?_eq_getElem (by omega)⟩;refine bC 0 (fun w hS=>(an rfl rfl dZ dE (by omega) (by omega))) ?_;refine bC 2 (fun w hS=>(ag (cs:=iJ x) rfl kA dE (fun j u e=>bS (hX.sat hS) (et hx j u e)))) ?_;obtain⟨B_p,rfl⟩:∃q,B=some q:=(hY.sat hS).aw (by omega);obtain⟨y,hy⟩:∃zz_,ys[i]?=some zz_:=⟨_,List.getElem?_eq_getElem (by omega)⟩;refine bC 0 (fun w hS=>(an rfl rfl dZ dE (by omega) (by omega))) ?_;refine bC 0 (fun w hS=>(ag (cs:=iJ y) rfl kA dE (fun j u e=>bS (hY.sat hS) (et hy j u e)))) ?_;intro a hA
   refine K.sq hA rfl rfl rfl (fun w hS=>(tU (hA.ev rfl) (hA.ev rfl) CJ CP)) ?_ ?_
   ·clear hA a;intro h24;intro a hA;refine wpQuiet_nil ?_;clear hS;intro w hS;refine rE 13 hA ?_;clear hA a;refine bt ?_;refine⟨?_,hS⟩;rw[decide_eq_false];intro h;rw[h,hy]at hx;cases hx;simp at h24
   ·clear hA a;intro h24;intro a hA;refine wpQuiet_nil ?_;clear hS;intro w hS;refine rE 6 hA ?_;clear hA a;refine u1 2 (aj rfl rfl (by omega) (by omega)) ?_;intro a hA;replace hA:=hA.kp [0,1,12,13] rfl;refine⟨xs.length-(i+1),by omega,i+1,hA,hS,by omega,?_,rfl⟩;rw[aP hx,aP hy,he,show x=y from by cases x;cases y;simpa using h24]
  ·intro h14;refine uO 15 ?_;refine bt ?_;refine⟨?_,hS⟩;rw[decide_eq_true];rwa[List.take_of_length_le (by omega),List.take_of_length_le (by omega)]at he
theorem wM (W:World)(W0:World)(L0:List As)(b:Nat)(r n:Int)(s:aF)(s0:Sat W0 W (aS b (.cells #[.int .i64 r,.int .i64 n] 214)::L0)):Calls Tryz.prog 195 #[.agg #[.int .i64 s.rep,.int .i64 s.lo,.int .i64 s.hi],.pointer (some ⟨b,0,none⟩)] W fun e w'=>e=.returned (.bool (DA s r n))∧Sat W w' []:=by
 refine enter Tryz.func195 rfl rfl rfl (.cons (i:=0) rfl (.cons (i:=1) rfl .nil)) ?_;have hS:=Sat.start W;refine uC 2 ?_;refine uB rfl hS ?_;clear hS;intro b2 w hS;refine uO 5 ?_;refine u1 0 (aa rfl fB) ?_;refine u1 0 (ld rfl bq) ?_;refine u1 0 (aa rfl cD) ?_;refine u1 0 (av rfl bq (s0.mW hS rfl)) ?_;refine ba 0 0 (bN rfl rfl) ?_ ?_
 ·intro h8;refine uO 1 ?_;refine u1 0 (aa rfl lr) ?_;refine u1 0 (ld rfl bq) ?_;refine u1 0 (aa rfl cT) ?_;refine u1 0 (av rfl bq (s0.mW hS rfl)) ?_;refine ba 0 0 (dU rfl rfl) ?_ ?_
  ·intro h14;refine uO 2 ?_;refine u1 0 (aa rfl cT) ?_;refine u1 0 (av rfl bq (s0.mW hS rfl)) ?_;refine u1 0 (aa rfl lT) ?_;refine u1 0 (ld rfl bq) ?_;refine u1 5 (dU rfl rfl) ?_;refine bt ?_;refine⟨?_,hS.nil⟩;unfold DA
   congr 2
   rw[Bool.eq_iff_iff];simp only[Bool.and_eq_true,decide_eq_true_eq,Bool.false_eq_true,false_iff];omega
  ·intro h14;refine uO 12 ?_;refine bt ?_;refine⟨?_,hS.nil⟩;unfold DA
   congr 2
   rw[Bool.eq_iff_iff];simp only[Bool.and_eq_true,decide_eq_true_eq,Bool.false_eq_true,false_iff];omega
 ·intro h8;refine uO 18 ?_;refine bt ?_;refine⟨?_,hS.nil⟩;unfold DA
  congr 2
  rw[Bool.eq_iff_iff];simp only[Bool.and_eq_true,decide_eq_true_eq,Bool.false_eq_true,false_iff];omega
theorem qx (W:World)(W0:World)(L0:List As)(b:Nat)(r n:Int)(A:Option Addr)(c:Nat)(xs:List aF)(s0:Sat W0 W (aS b (.cells #[.int .i64 r,.int .i64 n] 214)::L0))(hX:gD W A c xs)(hl:xs.length≤1000000000000000):Calls Tryz.prog 245 #[.slice A (xs).length c,.func (.func 195) #[] #[.pointer (some ⟨b,0,none⟩)]] W fun e w'=>∃k:Int,e=.returned (.int .i64 k)∧decide (0≤k)=jY xs r n∧Sat W w' []:=by
 refine enter Tryz.func245 rfl rfl rfl (.cons (i:=0) rfl (.cons (i:=1) rfl .nil)) ?_;have hS:=Sat.start W;refine uC 9 ?_;refine u1 4 (au rfl dZ) ?_;intro a hA;refine wp_loop_ghost (fun (mm:Nat) a w=>∃(i:Nat),Ag a 19 [(0,.slice A (xs).length c),(1,.func (.func 195) #[] #[.pointer (some ⟨b,0,none⟩)]),(7,.int .i64 ((xs.length:Nat):Int)),(8,.int .i64 ((i:Nat):Int))]∧Sat W w ([])∧(i≤xs.length)∧((xs.take i).any (fun s=>DA s r n)=false)∧mm=xs.length-i) xs.length ?_ ?_
 ·replace hA:=hA.kp [0,1,7,8] rfl;exact⟨0,hA,hS,(by omega),(by rfl),by omega⟩
 intro m a w hI;clear hS hA;obtain⟨i,hA,hS,hi,he,rfl⟩:=hI;refine rC 2 hA ?_;clear hA a;refine ba 0 0 (aA rfl rfl) ?_ ?_
 ·intro h9;refine uO 19 ?_;obtain⟨A_p,rfl⟩:∃q,A=some q:=(hX.sat hS).aw (by omega);obtain⟨x,hx⟩:∃zz_,xs[i]?=some zz_:=⟨_,List.getElem?_eq_getElem (by omega)⟩;refine u1 0 (an rfl rfl dZ dE (by omega) (by omega)) ?_;refine u1 0 (ag (cs:=iJ x) rfl kA dE (fun j u e=>bS (hX.sat hS) (et hx j u e))) ?_;intro a hA;refine vZ hA rfl Ec rfl rfl (wM _ _ _ b r n x (s0.ah hS)) ?_;rintro e w ⟨rfl,hT⟩;replace hS:Sat _ _ _:=hS.ah hT;clear hT;generalize h16:(DA x r n)=bb;cases bb
  ·refine .inl ⟨_,rfl,?_⟩;clear hA a;refine uO 7 ?_;refine u1 2 (aj rfl rfl (by omega) (by omega)) ?_;intro a hA;replace hA:=hA.kp [0,1,7,8] rfl;refine⟨xs.length-(i+1),by omega,i+1,hA,hS,by omega,?_,rfl⟩;rw[aP hx,List.any_append,he];simp[h16]
  ·refine .inl ⟨_,rfl,?_⟩;clear hA a;refine uO 15 ?_;refine bt ?_;refine⟨i,rfl,?_,hS⟩;rw[o3,decide_eq_true (by omega)];exact (List.any_eq_true.2 ⟨x,List.mem_of_getElem? hx,h16⟩).symm
 ·intro h9;refine uO 15 ?_;refine bt ?_;refine⟨-1,rfl,?_,hS⟩;rw[List.take_of_length_le (by omega)]at he;rw[o3,he];rfl
theorem kV (W:World)(W0:World)(L0:List As)(b:Nat)(r n:Int)(A:Option Addr)(c:Nat)(xs:List aF)(s0:Sat W0 W (aS b (.cells #[.int .i64 r,.int .i64 n] 214)::L0))(hX:gD W A c xs)(hl:xs.length≤1000000000000000):Calls Tryz.prog 194 #[.slice A (xs).length c,.func (.func 195) #[] #[.pointer (some ⟨b,0,none⟩)]] W fun e w'=>e=.returned (.bool (jY xs r n))∧Sat W w' []:=by
 refine enter Tryz.func194 rfl rfl rfl (.cons (i:=0) rfl (.cons (i:=1) rfl .nil)) ?_;have hS:=Sat.start W;refine uC 9 ?_;refine uF Eu rfl (qx _ _ _ b r n A c xs (s0.ah hS) (hX.sat hS) hl) ?_;rintro e w ⟨k,rfl,hk,hT⟩;replace hS:Sat _ _ _:=hS.ah hT;clear hT;refine⟨_,rfl,?_⟩;refine u1 4 (gQ rfl rfl) ?_;refine bt ?_;exact⟨by rw[hk],hS⟩
theorem su (W:World)(p:PL)(r n:Int)(hp:p.ok W)(hlv:p.d.vec.length≤1000000000000)(hlc:p.d.ad.length≤1000000000000):Calls Tryz.prog 162 #[.agg #[.slice p.va p.d.vec.length p.vc,.slice p.ca p.d.ad.length p.cc],.agg #[.int .i64 r,.int .i64 n]] W fun e w'=>e=.returned (.bool (hasB p.d r n))∧Sat W w' []:=by
 refine enter Tryz.func162 rfl rfl rfl (.cons (i:=0) rfl (.cons (i:=1) rfl .nil)) ?_;have hS:=Sat.start W;obtain⟨va,vc,ca,cc,d⟩:=p;have hpv:rM W va vc d.vec:=hp.vec;have hpc:gD W ca cc d.ad:=hp.ad;intro a hA;dsimp only at hlv hlc hA ⊢;refine rC 2 hA ?_;clear hA a;refine uB rfl hS ?_;clear hS;intro b2 w hS;refine uB rfl hS ?_;clear hS;intro b3 w hS;refine uO 6 ?_;refine u1 0 (ag (cs:=[_,_]) rfl mh gO (by exact hS.ab (xs:=[_,_]) rfl)) ?_;refine uF CT rfl (pd _ r n) ?_;rintro e w ⟨rfl,hT⟩;replace hS:Sat _ _ _:=hS.ah hT;clear hT;generalize h6:(dR r n)=bb;cases bb
 ·refine⟨_,rfl,?_⟩;refine u1 10 (aR rfl) ?_;refine bt ?_;refine⟨?_,hS.nil⟩;rw[hasB,h6];rfl
 ·refine⟨_,rfl,?_⟩;refine u1 7 (aR rfl) ?_;intro a hA;refine cZ (fun w'=>Sat _ w' _) (by kernel_rfl) (by kernel_rfl) hS.drew ?_;refine Q1 0 hA (fun w hS=>(aa (hA.ev rfl) cD)) ?_;clear hA a;refine bC 0 (fun w hS=>(ld rfl bq)) ?_;refine bC 0 (fun w hS=>(aa rfl cQ)) ?_;refine bC 0 (fun w hS=>(ld rfl gS)) ?_;refine bC 0 (fun w hS=>(au rfl bu)) ?_;intro a hA;refine K.sq hA rfl rfl rfl (fun w hS=>(aA (hA.ev rfl) (hA.ev rfl))) ?_ ?_
  ·clear hA a;intro h13;have hdot:=h6;intro a hA;unfold dR at hdot;simp only[Bool.and_eq_true,decide_eq_true_eq]at hdot;refine rQ 1 hA ?_;clear hA a;refine bC 0 (fun w hS=>(aa rfl cT)) ?_;refine bC 0 (fun w hS=>(ld rfl bq)) ?_;refine bC 0 (fun w hS=>(aa rfl cQ)) ?_;refine bC 0 (fun w hS=>(ld rfl gS)) ?_;refine bC 0 (fun w hS=>(aa rfl cD)) ?_;refine bC 0 (fun w hS=>(ld rfl bq)) ?_;obtain⟨va_p,rfl⟩:∃q,va=some q:=(hpv.sat hS).aw (by omega);obtain⟨v,hv⟩:∃zz_,d.vec[r.toNat]?=some zz_:=⟨_,List.getElem?_eq_getElem (by omega)⟩;refine bC 0 (fun w hS=>(an rfl rfl bu kz (by omega) (by omega))) ?_;refine bC 0 (fun w hS=>(av rfl bq (ml (hpv.sat hS) (ey hv)))) ?_;intro a hA;refine K.tL hA (ar hA rfl rfl rfl) rfl rfl (fun w hS=>(dU (hA.ev rfl) (hA.ev rfl))) ?_ ?_
   ·clear hA a;intro h23;refine uQ 1 ?_;intro a hA;refine wpQuiet_nil ?_;clear hS;intro w hS;refine rE 9 hA ?_;clear hA a;refine bt ?_;refine⟨?_,hS.nil⟩;have hv2:l5 d.vec r n=true:=by unfold l5;rw[hv];simp;omega
    rw[hasB,h6,hv2];simp
   ·clear hA a;intro h23;refine uQ 1 ?_;intro a hA;refine wpQuiet_nil ?_;clear hS;intro w hS;refine rE 6 hA ?_;clear hA a;refine u1 0 (aa rfl dg) ?_;refine u1 0 (ld rfl iM) ?_;intro a hA;refine o1 0 hA (nV (hA.jN rfl)) ?_;clear hA a;refine uF Ck rfl (kV _ _ _ _ r n ca cc d.ad hS (hpc.sat hS) (by omega)) ?_;rintro e w ⟨rfl,hT⟩;replace hS:Sat _ _ _:=hS.ah hT;clear hT;refine⟨_,rfl,?_⟩;refine uO 3 ?_;intro a hA;replace hA:=hA.kp [4] rfl;refine rC 1 hA ?_;clear hA a;refine bt ?_;refine⟨?_,hS.nil⟩;have hv2:l5 d.vec r n=false:=by unfold l5;rw[hv];simp;omega
    rw[hasB,h6,hv2];simp
  ·clear hA a;intro h13;refine uQ 11 ?_;intro a hA;refine wpQuiet_nil ?_;clear hS;intro w hS;refine rE 6 hA ?_;clear hA a;refine u1 0 (aa rfl dg) ?_;refine u1 0 (ld rfl iM) ?_;intro a hA;refine o1 0 hA (nV (hA.jN rfl)) ?_;clear hA a;refine uF Ck rfl (kV _ _ _ _ r n ca cc d.ad hS (hpc.sat hS) (by omega)) ?_;rintro e w ⟨rfl,hT⟩;replace hS:Sat _ _ _:=hS.ah hT;clear hT;refine⟨_,rfl,?_⟩;refine uO 3 ?_;intro a hA;replace hA:=hA.kp [4] rfl;refine rC 1 hA ?_;clear hA a;refine bt ?_;refine⟨?_,hS.nil⟩;have hv2:l5 d.vec r n=false:=by unfold l5;rw[List.getElem?_eq_none (by omega)]
   rw[hasB,h6,hv2];simp
theorem iV (W:World)(B:Option Addr)(d:Nat)(p:PL)(hB:Rd W 2 (.slice B 1 d) 1 ([p].flatMap o7))(hp:p.ok W)(hl:p.d.ad.length≤10000000000) :
 Calls Tryz.prog 191 #[.slice B 1 d] W fun e w'=>∃t ls,e=.returned (.pointer (some ⟨t,0,none⟩))∧fb ls (bY p.d)∧Sat W w' [gE 355 t ls,bR (ls.map (Loc.fR 357))]:=by
 refine (pK W B d [p] hB (fun q hq=>by simp at hq;subst hq;exact hp) (by simp) (by simp[cm];omega)).mono ?_;rintro e w' ⟨t,ls,he,hT,hS⟩;exact⟨t,ls,he,hT.congr fun r _=>by simp[i7],hS⟩
theorem oE {p:aB}(h:p.ad.length≤10000000000):∀r,r<16→(bY p r).length≤100000000000:=fun r _=>by have:=fF p r;omega
theorem bD (W:World)(p:PL)(hp:p.ok W)(hlc:p.d.ad.length≤10000000000):Calls Tryz.prog 157 #[.agg #[.slice p.va p.d.vec.length p.vc,.slice p.ca p.d.ad.length p.cc]] W fun e w'=>∃q:PL,e=.returned (.agg #[.slice q.va q.d.vec.length q.vc,.slice q.ca q.d.ad.length q.cc])∧q.d=fw p.d∧Sat W w' [ej 3 q.va q.vc q.d.vec,bG 219 q.ca q.cc q.d.ad]:=by
 refine enter Tryz.func157 rfl rfl rfl (.cons (i:=0) rfl .nil) ?_;have hS:=Sat.start W;refine uC 2 ?_;refine uB rfl hS ?_;clear hS;intro b1 w hS;refine uN db hS ?_;clear hS;intro b2 w hS;refine uO 4 ?_;refine u1 0 (ag (cs:=[_,_]) rfl bj aC (by exact (hS.p 1).ab (xs:=[_,_]) rfl)) ?_;intro a hA;refine gH (vss:=[[_,_]]) hA rfl rfl gr nR rfl rfl rfl (by simp) rfl hS ?_;clear hA a hS;intro A4 w hS;refine uF iu rfl (iV _ _ _ p hS.rd (hp.sat hS) hlc) ?_;rintro e w ⟨t,ls,rfl,hT,hT2⟩;replace hS:Sat _ _ (_::_::_):=hS.ah hT2;clear hT2;refine⟨_,rfl,?_⟩;refine uF xB rfl (iW _ _ _ t ls (bY p.d) hS hT (oE hlc)) ?_;rintro e w ⟨q,rfl,hq,hT2⟩;replace hS:Sat _ _ (_::_::_):=hS.ah hT2;clear hT2;refine⟨_,rfl,?_⟩;refine uW (vs:=[_,_]) (cs':=[_,_]) rfl rfl aC (hS.p 5) ?_;clear hS;intro w hS;refine uO 3 ?_;intro a hA
 refine js hA rfl (cy (cs:=[_,_]) hA rfl bj aC (by exact hS.ab (xs:=[_,_]) rfl)) ?_;exact⟨q,rfl,hq,rH ((hS.p 2).p 2)⟩
theorem iU (W:World)(A:Option Addr)(c:Nat)(ps:List PL)(hR:zP W A c ps)(hE:∀p∈ps,p.ok W)(hn:ps.length≤1000000000000)(ht:cm (ps.map PL.d)≤100000000000):Calls Tryz.prog 342 #[.slice A (ps).length c] W fun e w'=>∃q:PL,e=.returned (.agg #[.slice q.va q.d.vec.length q.vc,.slice q.ca q.d.ad.length q.cc])∧q.d=fu (ps.map PL.d)∧Sat W w' [ej 3 q.va q.vc q.d.vec,bG 219 q.ca q.cc q.d.ad]:=by
 refine enter Tryz.func342 rfl rfl rfl (.cons (i:=0) rfl .nil) ?_;have hS:=Sat.start W;refine uC 2 ?_;refine uN db hS ?_;clear hS;intro b2 w hS;refine uO 5 ?_;refine uF iu rfl (pK _ A c ps (hR.sat hS) (fun p hp=>(hE p hp).sat hS) hn (by omega)) ?_;rintro e w ⟨t,ls,rfl,hT,hT2⟩;replace hS:Sat _ _ (_::_::_):=hS.ah hT2;clear hT2;refine⟨_,rfl,?_⟩;refine uF xB rfl (iW _ _ _ t ls (i7 (ps.map PL.d)) hS hT (fun r _=>Nat.le_trans (ke _ r) ht)) ?_;rintro e w ⟨q,rfl,hq,hT2⟩;replace hS:Sat _ _ (_::_::_):=hS.ah hT2;clear hT2;refine⟨_,rfl,?_⟩;refine uW (vs:=[_,_]) (cs':=[_,_]) rfl rfl aC (hS.p 4) ?_;clear hS;intro w hS;refine uO 3 ?_;intro a hA;refine js hA rfl (cy (cs:=[_,_]) hA rfl bj aC (by exact hS.ab (xs:=[_,_]) rfl)) ?_;exact⟨q,rfl,hq,rH ((hS.p 2).p 2)⟩
theorem dJ (W:World)(p:PL)(hp:p.ok W)(hlc:p.d.ad.length≤10000000000)(hlv:p.d.vec.length≤1000000000000):Calls Tryz.prog 121 #[.agg #[.slice p.va p.d.vec.length p.vc,.slice p.ca p.d.ad.length p.cc]] W fun e w'=>e=.returned (.bool (bK p.d))∧Sat W w' []:=by
 refine enter Tryz.func121 rfl rfl rfl (.cons (i:=0) rfl .nil) ?_;have hS:=Sat.start W;refine uC 2 ?_;refine uB rfl hS ?_;clear hS;intro b1 w hS;refine uO 5 ?_;refine u1 0 (ag (cs:=[_,_]) rfl bj aC (by exact hS.ab (xs:=[_,_]) rfl)) ?_;refine uF fO rfl (bD _ p (hp.sat hS) hlc) ?_;rintro e w ⟨q,rfl,hq,hT⟩;have hcn:=jr p.d;rw[←hq]at hcn;have hcv:=hcn.len;have hcl:=lj p.d;rw[←hq]at hcl;replace hS:Sat _ _ (_::_::_):=hS.ah hT;clear hT;refine⟨_,rfl,?_⟩;refine uN db hS ?_;clear hS;intro b3 w hS;refine uW (vs:=[_,_]) (cs':=[_,_]) rfl rfl aC hS ?_;clear hS;intro w hS;refine uO 4 ?_;refine u1 0 (aa rfl cQ) ?_;refine u1 0 (ld rfl gS) ?_;refine u1 0 (aa rfl cQ) ?_;refine u1 0 (ld rfl gS) ?_;refine uF E6 rfl (yC _ p.va p.vc p.d.vec q.va q.vc q.d.vec (hp.vec.sat hS) (hS.p 1).rd (by omega) (by omega)) ?_
 rintro e w ⟨rfl,hT⟩;replace hS:Sat _ _ _:=hS.ah hT;clear hT;generalize h10:(decide (p.d.vec=q.d.vec))=bb;cases bb
 ·refine⟨_,rfl,?_⟩;refine uO 11 ?_;refine bt ?_;refine⟨?_,hS.nil⟩
  congr 2
  unfold bK;rw[←hq,eq_comm,decide_eq_false];intro h;rw[h]at h10;simp at h10
 ·refine⟨_,rfl,?_⟩;refine uO 1 ?_;refine u1 0 (aa rfl dg) ?_;refine u1 0 (ld rfl iM) ?_;refine u1 0 (aa rfl dg) ?_;refine u1 0 (ld rfl iM) ?_;intro a hA;refine eZ hA (ar hA rfl rfl rfl) rfl Fo rfl (za _ p.ca p.cc p.d.ad q.ca q.cc q.d.ad (hp.ad.sat hS) (hS.p 2).rd (by omega) (by omega)) ?_;clear hA a;rintro e w ⟨rfl,hT⟩;replace hS:Sat _ _ _:=hS.ah hT;clear hT;generalize h16:(decide (p.d.ad=q.d.ad))=bb;cases bb
  ·refine⟨_,rfl,?_⟩;refine uO 5 ?_;refine bt ?_;refine⟨?_,hS.nil⟩
   congr 2
   unfold bK;rw[←hq,eq_comm,decide_eq_false];intro h;rw[h]at h16;simp at h16
  ·refine⟨_,rfl,?_⟩;refine uO 5 ?_;refine bt ?_;refine⟨?_,hS.nil⟩
   congr 2
   unfold bK;rw[←hq,eq_comm,decide_eq_true];simp only[decide_eq_true_eq]at h10 h16;exact rh h10.symm h16.symm
theorem vH (W:World)(p:PL)(hp:p.ok W)(hlc:p.d.ad.length≤10000000000):Calls Tryz.prog 170 #[.agg #[.slice p.va p.d.vec.length p.vc,.slice p.ca p.d.ad.length p.cc]] W fun e w'=>e=.returned (.int .i64 (AK p.d))∧Sat W w' []:=by
 refine enter Tryz.func170 rfl rfl rfl (.cons (i:=0) rfl .nil) ?_;have hS:=Sat.start W;refine uC 2 ?_;refine uB rfl hS ?_;clear hS;intro b1 w hS;refine uO 11 ?_;refine u1 0 (ag (cs:=[_,_]) rfl bj aC (by exact hS.ab (xs:=[_,_]) rfl)) ?_;intro a hA;refine gH (vss:=[[_,_]]) hA rfl rfl gr nR rfl rfl rfl (by simp) rfl hS ?_;clear hA a hS;intro A7 w hS;refine uF iu rfl (iV _ _ _ p hS.rd (hp.sat hS) hlc) ?_;rintro e w ⟨t,ls,rfl,hT,hT2⟩;replace hS:Sat _ _ (_::_::_):=hS.ah hT2;clear hT2;refine⟨_,rfl,?_⟩;refine u1 4 (aI rfl) ?_;intro a hA;refine wp_loop_ghost (fun (mm:Nat) a w=>∃(r:Nat),Ag a 21 [(3,.int .i64 (((List.range r).map fun r=>de (bf p.d r)).sum)),(8,.pointer (some ⟨t,0,none⟩)),(10,.int .i64 ((r:Nat):Int))]∧Sat W w ([gE 355 t ls,bR (ls.map (Loc.fR 357))])∧(r≤16)∧mm=16-r) 16 ?_ ?_
 ·replace hA:=hA.kp [3,8,10] rfl;exact⟨0,hA,rH hS,(by omega),by omega⟩
 intro m a w hI;clear hS hA;obtain⟨r,hA,hS,hr,rfl⟩:=hI;refine rC 2 hA ?_;clear hA a;refine ba 0 0 (aA rfl rfl) ?_ ?_
 ·intro h11;obtain⟨lA,lc,hl⟩:=hT.get (show r<16 by omega);have hst:=th p.d r;have hst2:=th p.d (r+1);intro a hA;rw[sc]at hst2;have hrl:=oE hlc r (by omega);refine rO 10 hA ?_;clear hA a;refine u1 0 (aI rfl) ?_;refine u1 0 (bI rfl rfl iY fH (by omega) (by omega)) ?_;refine u1 6 (av rfl iA (eS hS hl)) ?_;refine uF FA rfl (wv _ lA lc (bY p.d r) (oI hS.u6 hl) (by omega)) ?_;rintro e w ⟨rfl,hT2⟩;replace hS:Sat _ _ _:=hS.ah hT2;clear hT2;refine⟨_,rfl,?_⟩;refine u1 5 (aj rfl rfl (by omega) (by omega)) ?_;refine u1 2 (aj rfl rfl (by omega) (by omega)) ?_;intro a hA;replace hA:=hA.kp [3,8,10] rfl;rw[←sc]at hA;exact⟨16-(r+1),by omega,r+1,hA,hS,by omega,rfl⟩
 ·intro h11;refine uO 16 ?_;refine bt ?_;obtain rfl:r=16:=by omega
  exact⟨rfl,hS.nil⟩
theorem eD (W:World)(p:PL)(hp:p.ok W)(hlc:p.d.ad.length≤10000000000):Calls Tryz.prog 125 #[.agg #[.slice p.va p.d.vec.length p.vc,.slice p.ca p.d.ad.length p.cc]] W fun e w'=>e=.returned (.bool (dN p.d))∧Sat W w' []:=by
 refine enter Tryz.func125 rfl rfl rfl (.cons (i:=0) rfl .nil) ?_;have hS:=Sat.start W;refine uC 2 ?_;refine uB rfl hS ?_;clear hS;intro b1 w hS;refine uO 5 ?_;refine u1 0 (ag (cs:=[_,_]) rfl bj aC (by exact hS.ab (xs:=[_,_]) rfl)) ?_;refine uF FD rfl (vH _ p (hp.sat hS) hlc) ?_;rintro e w ⟨rfl,hT2⟩;replace hS:Sat _ _ _:=hS.ah hT2;clear hT2;refine⟨_,rfl,?_⟩;refine u1 4 (bN rfl rfl) ?_;refine bt ?_;exact⟨rfl,hS.nil⟩
end Go.Proofs.YtkjabaihpkbfhaaGreat.Wk
namespace Go.Proofs.YtkjabaihpkbfhaaGreat.K
open Go Go.RowKit
variable {P:Program} {ops:Array Oper} {a:Act} {n:Nat} {E:Env} {w:World} {d:Nat} {ds:List Deferred} {x:Operand} {Q:Exit→Act→World→Prop}
theorem eV {i:Nat}{K:Act→World→Prop}{f:Nat}{l:List Operand}{tys:Array TypeId}{vs caps:List Value}{ty:TypeId}{ps:String}{af:Array Edge}{R:Ending→World→Prop}(hA:Ag a n E ds)(hi:ops[i]?=some ⟨some d,.call { callee:=.value x,args:=l.toArray,argTypes:=tys },ty,ps,af,none⟩)
 (hn:Nat.blt d n=true) (hf:enters P f=true) (hx:ez E x=some (.func (.func f) #[] caps.toArray)) (hv:jN E l=some vs) (hc:Calls P f (vs++caps).toArray w R) (k:∀e w',R e w'→∃v,e=.returned v∧∀a',Ag a' n ((d,v)::E) ds→K a' w'):wpOp P ops Q i K a w:=by
 unfold wpOp;simp only[hi];rw[if_pos (by simp[Region.wanted])];refine .inl ?_;have hr:=tg (P:=P) (w:=w) (dd:=some d) (ty:=ty) (ps:=ps) (af:=af) (g:=none) (tys:=tys) hA hf hx hv;simp only[Oper.wp,hr,Oper.upon];refine hc.mono fun e w' h=>?_;obtain⟨v,rfl,hk⟩:=k e w' h;exact hk _ (hA.put hn v)
end Go.Proofs.YtkjabaihpkbfhaaGreat.K
namespace Go.Proofs.YtkjabaihpkbfhaaGreat.Wk
open Go Go.RowKit Go.Proofs.YtkjabaihpkbfhaaGreat Go.Proofs.YtkjabaihpkbfhaaGreat.K Go.Proofs.YtkjabaihpkbfhaaGreat.T
theorem nE {xs:List Int}{i:Nat}{x:Int}(h:xs[i]?=some x)(h0:cF (xs.take i)=0)(hx:x≠0):cF xs=x:=by
 conv=>lhs;rw[←List.take_append_drop i xs,dA,if_pos h0,bT h,cF,if_neg hx]
theorem mX {xs:List Int}{i:Nat}{x:Int}(h:xs[i]?=some x)(h0:cF (xs.take i)=0)(hx:x=0):cF (xs.take (i+1))=0:=by
 rw[aP h,dA,if_pos h0,cF,if_pos hx];rfl
theorem fy {v:List Int}{r:Nat}{x:Int}(h:v[r]?=some x):aL v r=x:=by unfold aL;rw[h]
theorem wu {x y:Int}(h:x≠y):mn x y≠0:=fun e=>h (lg.1 e)
theorem o8 (W:World)(x:Int)  : Calls Tryz.prog 414 #[.int .i64 x] W fun e w'=>e=.returned (.bool false)∧Sat W w' []:=by
 refine enter Tryz.func414 rfl rfl rfl (.cons (i:=0) rfl .nil) ?_;have hS:=Sat.start W;refine uC 9 ?_;refine u1 4 (cV (aD rfl rfl) (by omega)) ?_;refine bt ?_;exact⟨rfl,hS⟩
theorem eI (W:World)(x y:Int)  : Calls Tryz.prog 398 #[.int .i64 x,.int .i64 y] W fun e w'=>e=.returned (.int .i64 (mn x y))∧Sat W w' []:=by
 refine enter Tryz.func398 rfl rfl rfl (.cons (i:=0) rfl (.cons (i:=1) rfl .nil)) ?_;have hS:=Sat.start W;refine uC 8 ?_;refine uF CO rfl (o8 _ x) ?_;rintro e w ⟨rfl,hT⟩;replace hS:Sat _ _ _:=hS.ah hT;clear hT
 ·refine⟨_,rfl,?_⟩;refine uO 6 ?_;refine uF CO rfl (o8 _ y) ?_;rintro e w ⟨rfl,hT⟩;replace hS:Sat _ _ _:=hS.ah hT;clear hT
  ·refine⟨_,rfl,?_⟩;refine uO 26 ?_;refine ba 0 0 (aA rfl rfl) ?_ ?_
   ·intro h16;refine uO 2 ?_;intro a hA;replace hA:=hA.kp [0,1,4,16] rfl;refine rC 8 hA ?_;clear hA a;refine bt ?_;refine⟨?_,hS⟩;unfold mn
    (repeat' split)<;>rfl
   ·intro h16;refine uO 2 ?_;intro a hA;replace hA:=hA.kp [0,1,4,16] rfl;refine rC 8 hA ?_;clear hA a;refine ba 0 0 (dW rfl rfl) ?_ ?_
    ·intro h19;refine uO 10 ?_;refine bt ?_;refine⟨?_,hS⟩;unfold mn
     (repeat' split)<;>first | rfl | omega
    ·intro h19;refine uO 11 ?_;refine bt ?_;refine⟨?_,hS⟩;unfold mn
     (repeat' split)<;>first | rfl | omega
theorem zZ (W:World)(A:Option Addr)(c:Nat)(xs:List Int)(hX:rM W A c xs)(hl:xs.length≤1000000000000):Calls Tryz.prog 401 #[.slice A (xs).length c] W fun e w'=>e=.returned (.int .i64 (cF xs))∧Sat W w' []:=by
 refine enter Tryz.func401 rfl rfl rfl (.cons (i:=0) rfl .nil) ?_;have hS:=Sat.start W;refine uC 14 ?_;refine u1 4 (au rfl bu) ?_;intro a hA;refine wp_loop_ghost (fun (mm:Nat) a w=>∃(i:Nat),Ag a 18 [(3,.int .i64 0),(6,.slice A (xs).length c),(7,.int .i64 ((xs.length:Nat):Int)),(8,.int .i64 ((i:Nat):Int))]∧Sat W w ([])∧(i≤xs.length)∧(cF (xs.take i)=0)∧mm=xs.length-i) xs.length ?_ ?_
 ·replace hA:=hA.kp [3,6,7,8] rfl;exact⟨0,hA,hS,(by omega),(by rfl),by omega⟩
 intro m a w hI;clear hS hA;obtain⟨i,hA,hS,hi,he,rfl⟩:=hI;refine rC 2 hA ?_;clear hA a;refine ba 0 0 (aA rfl rfl) ?_ ?_
 ·intro h9;refine uO 10 ?_;obtain⟨A_p,rfl⟩:∃q,A=some q:=(hX.sat hS).aw (by omega);obtain⟨x,hx⟩:∃zz_,xs[i]?=some zz_:=⟨_,List.getElem?_eq_getElem (by omega)⟩;refine u1 0 (an rfl rfl bu kz (by omega) (by omega)) ?_;refine u1 7 (av rfl bq (ml (hX.sat hS) (ey hx))) ?_;refine ba 0 0 (aD rfl rfl) ?_ ?_
  ·intro h14;refine uO 15 ?_;refine bt ?_;exact⟨by rw[nE hx he h14],hS⟩
  ·intro h14;refine uO 7 ?_;refine u1 2 (aj rfl rfl (by omega) (by omega)) ?_;intro a hA;replace hA:=hA.kp [3,6,7,8] rfl;exact⟨xs.length-(i+1),by omega,i+1,hA,hS,by omega,mX hx he (by omega),rfl⟩
 ·intro h9;refine uO 16 ?_;refine bt ?_;rw[List.take_of_length_le (by omega)]at he;exact⟨by rw[he],hS⟩
theorem p5 (W:World)(s t:aF)  : Calls Tryz.prog 400 #[.agg #[.int .i64 s.rep,.int .i64 s.lo,.int .i64 s.hi],.agg #[.int .i64 t.rep,.int .i64 t.lo,.int .i64 t.hi]] W fun e w'=>e=.returned (.int .i64 (sT s t))∧Sat W w' []:=by
 refine enter Tryz.func400 rfl rfl rfl (.cons (i:=0) rfl (.cons (i:=1) rfl .nil)) ?_;have hS:=Sat.start W;refine uC 2 ?_;refine uB rfl hS ?_;clear hS;intro b2 w hS;refine uB rfl hS ?_;clear hS;intro b3 w hS;refine uO 4 ?_;intro a hA;refine bB [14,15,16] hS (by kernel_rfl) ?_;replace hS:=hS.drew;refine P1 0 [] hA rfl (fun w=>(aa (hA.ev rfl) fB)) ?_;clear hA a
 refine dH 1 [] rfl (by exact⟨[],hS⟩) (fun w hT=>have hS:=hT.sat;(ld rfl bq)) ?_;refine bF 2 [] rfl (fun w=>(aa rfl fB)) ?_;refine dH 3 [] rfl (by exact⟨[],hS⟩) (fun w hT=>have hS:=hT.sat;(ld rfl bq)) ?_;refine bF 5 [] rfl (fun w=>(aa rfl lr)) ?_;refine dH 6 [] rfl (by exact⟨[],hS⟩) (fun w hT=>have hS:=hT.sat;(ld rfl bq)) ?_;refine bF 7 [] rfl (fun w=>(aa rfl lr)) ?_;refine dH 8 [] rfl (by exact⟨[],hS⟩) (fun w hT=>have hS:=hT.sat;(ld rfl bq)) ?_;refine bF 10 [] rfl (fun w=>(aa rfl lT)) ?_;refine dH 11 [] rfl (by exact⟨[],hS⟩) (fun w hT=>have hS:=hT.sat;(ld rfl bq)) ?_;refine bF 12 [] rfl (fun w=>(aa rfl lT)) ?_;refine dH 13 [] rfl (by exact⟨[],hS⟩) (fun w hT=>have hS:=hT.sat;(ld rfl bq)) ?_;intro a hA;refine aG 4 (by kernel_rfl) ?_;refine eF hA rfl rfl sF rfl (eI _ s.rep t.rep) ?_
 clear hA a;rintro e w ⟨rfl,hT⟩;replace hS:Sat _ _ _:=hS.ah hT;clear hT;refine⟨_,rfl,?_⟩;intro a hA;refine⟨.inr fun _=>(by exact⟨[],hS⟩),?_⟩;refine aG 9 (by kernel_rfl) ?_;refine eF hA rfl rfl sF rfl (eI _ s.lo t.lo) ?_;clear hA a;rintro e w ⟨rfl,hT⟩;replace hS:Sat _ _ _:=hS.ah hT;clear hT;refine⟨_,rfl,?_⟩;intro a hA;refine⟨.inr fun _=>(by exact⟨[],hS⟩),?_⟩;refine aG 14 (by kernel_rfl) ?_;refine eF hA rfl rfl sF rfl (eI _ s.hi t.hi) ?_;clear hA a;rintro e w ⟨rfl,hT⟩;replace hS:Sat _ _ _:=hS.ah hT;clear hT;refine⟨_,rfl,?_⟩;intro a hA;refine⟨.inl rfl,?_⟩;refine aG 15 (by kernel_rfl) ?_;refine eL hA rfl rfl rfl bu vK rfl rfl rfl (by simp[Value.oneCell']) hS ?_;clear hA a hS;intro A20 w hS;intro a hA;refine⟨.inl rfl,?_⟩;refine aG 16 (by kernel_rfl) ?_
 refine eF hA rfl rfl EH rfl (zZ _ _ _ [mn s.rep t.rep,mn s.lo t.lo,mn s.hi t.hi] hS.rd (by simp)) ?_;clear hA a;rintro e w ⟨rfl,hT⟩;replace hS:Sat _ _ _:=hS.ah hT;clear hT;refine⟨_,rfl,?_⟩;intro a hA;refine⟨.inl rfl,?_⟩;refine rX [17] hA ?_;clear hA a;intro a hA;refine ai (by kernel_rfl) ?_ _;refine rE 2 hA ?_;clear hA a;refine bt ?_;exact⟨rfl,hS.nil⟩
theorem qL (W:World)(A:Option Addr)(c:Nat)(xs:List aF)(B:Option Addr)(d:Nat)(ys:List aF)(hX:gD W A c xs)(hY:gD W B d ys)(hlx:xs.length≤1000000000000000)(hly:ys.length≤1000000000000000):Calls Tryz.prog 399 #[.slice A (xs).length c,.slice B (ys).length d,.func (.func 400) #[] #[]] W fun e w'=>e=.returned (.int .i64 (ff xs ys))∧Sat W w' []:=by
 refine enter Tryz.func399 rfl rfl rfl (.cons (i:=0) rfl (.cons (i:=1) rfl (.cons (i:=2) rfl .nil))) ?_;have hS:=Sat.start W;refine uC 9 ?_;refine u1 4 (au rfl dZ) ?_;intro a hA;refine wp_loop_ghost (fun (mm:Nat) a w=>∃(i:Nat),Ag a 39 [(0,.slice A (xs).length c),(1,.slice B (ys).length d),(2,.func (.func 400) #[] #[]),(11,.slice A (xs).length c),(12,.int .i64 ((xs.length:Nat):Int)),(13,.int .i64 ((i:Nat):Int))]∧Sat W w ([])∧(i≤xs.length)∧(i≤ys.length)∧(ff (xs.drop i) (ys.drop i)=ff xs ys)∧mm=xs.length-i) xs.length ?_ ?_
 ·replace hA:=hA.kp [0,1,2,11,12,13] rfl;exact⟨0,hA,hS,(by omega),(by omega),(by rfl),by omega⟩
 intro m a w hI;clear hS hA;obtain⟨i,hA,hS,hi,hj,he,rfl⟩:=hI;refine rC 2 hA ?_;clear hA a;refine ba 0 0 (aA rfl rfl) ?_ ?_
 ·intro h14;refine uO 11 ?_;obtain⟨A_p,rfl⟩:∃q,A=some q:=(hX.sat hS).aw (by omega);obtain⟨x,hx⟩:∃zz_,xs[i]?=some zz_:=⟨_,List.getElem?_eq_getElem (by omega)⟩;refine u1 0 (an rfl rfl dZ dE (by omega) (by omega)) ?_;refine u1 0 (ag (cs:=iJ x) rfl kA dE (fun j u e=>bS (hX.sat hS) (et hx j u e))) ?_;refine uN xR hS ?_;clear hS;intro b8 w hS;refine uO 1 ?_;refine uW (vs:=[_,_,_]) (cs':=[_,_,_]) rfl rfl dE hS ?_;clear hS;intro w hS;refine uO 7 ?_;refine u1 0 (au rfl dZ) ?_;refine ba 0 0 (gQ rfl rfl) ?_ ?_
  ·intro h21;refine uO 15 ?_;refine bt ?_;rw[bT hx,List.drop_of_length_le (by omega:ys.length≤i),ff]at he;exact⟨by rw[←he],hS.nil⟩
  ·intro h21;refine uO 9 ?_;obtain⟨B_p,rfl⟩:∃q,B=some q:=(hY.sat hS).aw (by omega);obtain⟨y,hy⟩:∃zz_,ys[i]?=some zz_:=⟨_,List.getElem?_eq_getElem (by omega)⟩;refine u1 0 (an rfl rfl dZ dE (by omega) (by omega)) ?_;refine u1 0 (ag (cs:=iJ y) rfl kA dE (fun j u e=>bS (hY.sat hS) (et hy j u e))) ?_;refine uN xR hS ?_;clear hS;intro b9 w hS;refine uW (vs:=[_,_,_]) (cs':=[_,_,_]) rfl rfl dE hS ?_;clear hS;intro w hS;refine uO 5 ?_;refine u1 0 (ag (cs:=[_,_,_]) rfl kA dE (by exact (hS.p 1).ab (xs:=[_,_,_]) rfl)) ?_;refine u1 0 (ag (cs:=[_,_,_]) rfl kA dE (by exact hS.ab (xs:=[_,_,_]) rfl)) ?_;intro a hA;refine vZ hA rfl D4 rfl rfl (p5 _ x y) ?_;rintro e w ⟨rfl,hT⟩;replace hS:Sat _ _ _:=hS.ah hT;clear hT
   ·refine .inl ⟨_,rfl,?_⟩;clear hA a;refine uO 6 ?_;refine ba 0 0 (aD rfl rfl) ?_ ?_
    ·intro h31;refine uO 15 ?_;refine bt ?_;rw[bT hx,bT hy,ff,if_neg (by omega)]at he;exact⟨by rw[←he],hS.nil⟩
    ·intro h31;refine uO 7 ?_;refine u1 2 (aj rfl rfl (by omega) (by omega)) ?_;intro a hA;replace hA:=hA.kp [0,1,2,11,12,13] rfl;rw[bT hx,bT hy,ff,if_pos (by omega)]at he;exact⟨xs.length-(i+1),by omega,i+1,hA,hS.nil,by omega,by omega,he,rfl⟩
 ·intro h14;refine uO 13 ?_;refine u1 1 (au rfl dZ) ?_;refine u1 0 (au rfl dZ) ?_;refine ba 0 0 (aA rfl rfl) ?_ ?_
  ·intro h38;refine uO 8 ?_;intro a hA;replace hA:=hA.kp [6] rfl;refine rC 2 hA ?_;clear hA a;refine bt ?_;obtain⟨y,hy⟩:∃y,ys[i]?=some y:=⟨_,List.getElem?_eq_getElem (by omega)⟩;rw[bT hy,List.drop_of_length_le (by omega:xs.length≤i),ff]at he;exact⟨by rw[←he],hS.nil⟩
  ·intro h38;refine uO 11 ?_;refine bt ?_;rw[List.drop_of_length_le (by omega:xs.length≤i),List.drop_of_length_le (by omega:ys.length≤i),ff]at he;exact⟨by rw[←he],hS.nil⟩
theorem rB (W:World)(p q:PL)(hp:p.ok W)(hq:q.ok W)(hlp:p.d.ad.length≤10000000000)(hlq:q.d.ad.length≤10000000000):Calls Tryz.prog 387 #[.agg #[.slice p.va p.d.vec.length p.vc,.slice p.ca p.d.ad.length p.cc],.agg #[.slice q.va q.d.vec.length q.vc,.slice q.ca q.d.ad.length q.cc]] W fun e w'=>e=.returned (.int .i64 (yl p.d q.d))∧Sat W w' []:=by
 refine enter Tryz.func387 rfl rfl rfl (.cons (i:=0) rfl (.cons (i:=1) rfl .nil)) ?_;have hS:=Sat.start W;refine uC 2 ?_;refine uB rfl hS ?_;clear hS;intro b2 w hS;refine uB rfl hS ?_;clear hS;intro b3 w hS;refine uO 3 ?_;intro a hA;replace hA:=hA.kp [2,3,4] rfl;refine iD (fun a w=>∃(b5 b6:Nat) (x y:PL),Ag a 49 [(4,.int .i64 0),(5,.pointer (some ⟨b5,0,none⟩)),(6,.pointer (some ⟨b6,0,none⟩))]∧Sat W w ([aS b5 (.cells #[.slice x.va x.d.vec.length x.vc,.slice x.ca x.d.ad.length x.cc] 63),aS b6 (.cells #[.slice y.va y.d.vec.length y.vc,.slice y.ca y.d.ad.length y.cc] 63),ej 3 x.va x.vc x.d.vec,bG 219 x.ca x.cc x.d.ad,ej 3 y.va y.vc y.d.vec,bG 219 y.ca y.cc y.d.ad])∧(x.d=fw p.d)∧(y.d=fw q.d)) ?_ ?_
 ·refine bB [3,6,7] hS (by kernel_rfl) ?_;replace hS:=hS.drew;refine X1 0 [] hA rfl (by exact⟨[],hS⟩) (fun w hT=>have hS:=hT.sat;(ag (cs:=[_,_]) (hA.ev rfl) bj aC (by exact (hS.p 1).ab (xs:=[_,_]) rfl))) ?_;clear hA a;refine dH 2 [] rfl (by exact⟨[],hS⟩) (fun w hT=>have hS:=hT.sat;(ag (cs:=[_,_]) rfl bj aC (by exact hS.ab (xs:=[_,_]) rfl))) ?_;intro a hA;refine AO 1 4 5 (by kernel_rfl) ?_ ?_ ?_
  ·refine eF hA rfl rfl fO rfl (bD _ p (hp.sat hS) hlp) ?_;clear hA a;rintro e w ⟨x,rfl,hx,hT⟩;replace hS:Sat _ _ (_::_::_):=hS.ah hT;clear hT;refine⟨_,rfl,?_⟩;intro a hA;refine⟨.inr fun _=>(by exact⟨[_,_],hS⟩),?_⟩;refine AO 3 4 5 (by kernel_rfl) ?_ ?_ ?_
   ·refine eF hA rfl rfl fO rfl (bD _ q (hq.sat hS) hlq) ?_;clear hA a;rintro e w ⟨y,rfl,hy,hT⟩;replace hS:Sat _ _ (_::_::_):=hS.ah hT;clear hT;refine⟨_,rfl,?_⟩;intro a hA;refine⟨.inl rfl,?_⟩;refine kN 4 5 (by kernel_rfl) ?_ ?_
    ·refine eN hA rfl rfl db hS ?_;clear hA a hS;intro b5 w hS;intro a hA;refine⟨.inr fun _=>(by exact⟨[_,_,_,_,_],hS⟩),?_⟩;refine aG 5 (by kernel_rfl) ?_;refine eN hA rfl rfl db hS ?_;clear hA a hS;intro b6 w hS;intro a hA;refine⟨.inr fun _=>(by exact⟨[_,_,_,_,_,_],hS⟩),?_⟩;refine aG 6 (by kernel_rfl) ?_;refine cK (vs:=[_,_]) (cs':=[_,_]) hA rfl rfl rfl aC (by simp[Value.oneCell']) (hS.p 1) rfl rfl ?_;clear hS;intro w hS;refine⟨.inl rfl,?_⟩;refine aG 7 (by kernel_rfl) ?_;refine cK (vs:=[_,_]) (cs':=[_,_]) hA rfl rfl rfl aC (by simp[Value.oneCell']) (hS.p 1) rfl rfl ?_;clear hS;intro w hS;refine⟨.inl rfl,?_⟩;refine ai (by kernel_rfl) ?_ _;replace hA:=hA.kp [4,5,6] rfl
     first
      | exact⟨b5,b6,x,y,hA,((((((hS.p 3).p 3).p 5).p 5).p 4).p 5).cA [_,_,_,_,_,_],(by exact hx),(by exact hy)⟩
    ·refine eN hA rfl rfl db hS ?_;clear hA a hS;intro b6 w hS;intro a hA;refine⟨.inr fun _=>(by exact⟨[_,_,_,_,_],hS⟩),?_⟩;refine aG 4 (by kernel_rfl) ?_;refine eN hA rfl rfl db hS ?_;clear hA a hS;intro b5 w hS;intro a hA;refine⟨.inr fun _=>(by exact⟨[_,_,_,_,_,_],hS⟩),?_⟩;refine aG 6 (by kernel_rfl) ?_;refine cK (vs:=[_,_]) (cs':=[_,_]) hA rfl rfl rfl aC (by simp[Value.oneCell']) hS rfl rfl ?_;clear hS;intro w hS;refine⟨.inl rfl,?_⟩;refine aG 7 (by kernel_rfl) ?_;refine cK (vs:=[_,_]) (cs':=[_,_]) hA rfl rfl rfl aC (by simp[Value.oneCell']) (hS.p 1) rfl rfl ?_;clear hS;intro w hS;refine⟨.inl rfl,?_⟩;refine ai (by kernel_rfl) ?_ _;replace hA:=hA.kp [4,5,6] rfl
     first
      | exact⟨b5,b6,x,y,hA,((((((hS.p 3).p 3).p 5).p 5).p 4).p 5).cA [_,_,_,_,_,_],(by exact hx),(by exact hy)⟩
   ·refine eN hA rfl rfl db hS ?_;clear hA a hS;intro b5 w hS;intro a hA;refine⟨.inr fun _=>(by exact⟨[_,_,_],hS⟩),?_⟩;refine kN 3 5 (by kernel_rfl) ?_ ?_
    ·refine eF hA rfl rfl fO rfl (bD _ q (hq.sat hS) hlq) ?_;clear hA a;rintro e w ⟨y,rfl,hy,hT⟩;replace hS:Sat _ _ (_::_::_):=hS.ah hT;clear hT;refine⟨_,rfl,?_⟩;intro a hA;refine⟨.inl rfl,?_⟩;refine aG 5 (by kernel_rfl) ?_;refine eN hA rfl rfl db hS ?_;clear hA a hS;intro b6 w hS;intro a hA;refine⟨.inr fun _=>(by exact⟨[_,_,_,_,_,_],hS⟩),?_⟩;refine aG 6 (by kernel_rfl) ?_;refine cK (vs:=[_,_]) (cs':=[_,_]) hA rfl rfl rfl aC (by simp[Value.oneCell']) (hS.p 3) rfl rfl ?_;clear hS;intro w hS;refine⟨.inl rfl,?_⟩;refine aG 7 (by kernel_rfl) ?_;refine cK (vs:=[_,_]) (cs':=[_,_]) hA rfl rfl rfl aC (by simp[Value.oneCell']) (hS.p 1) rfl rfl ?_;clear hS;intro w hS;refine⟨.inl rfl,?_⟩;refine ai (by kernel_rfl) ?_ _;replace hA:=hA.kp [4,5,6] rfl
     first
      | exact⟨b5,b6,x,y,hA,((((((hS.p 3).p 3).p 5).p 5).p 4).p 5).cA [_,_,_,_,_,_],(by exact hx),(by exact hy)⟩
    ·refine eN hA rfl rfl db hS ?_;clear hA a hS;intro b6 w hS;intro a hA;refine⟨.inr fun _=>(by exact⟨[_,_,_,_],hS⟩),?_⟩;refine aG 3 (by kernel_rfl) ?_;refine eF hA rfl rfl fO rfl (bD _ q (hq.sat hS) hlq) ?_;clear hA a;rintro e w ⟨y,rfl,hy,hT⟩;replace hS:Sat _ _ (_::_::_):=hS.ah hT;clear hT;refine⟨_,rfl,?_⟩;intro a hA;refine⟨.inl rfl,?_⟩;refine aG 6 (by kernel_rfl) ?_;refine cK (vs:=[_,_]) (cs':=[_,_]) hA rfl rfl rfl aC (by simp[Value.oneCell']) (hS.p 3) rfl rfl ?_;clear hS;intro w hS;refine⟨.inl rfl,?_⟩;refine aG 7 (by kernel_rfl) ?_;refine cK (vs:=[_,_]) (cs':=[_,_]) hA rfl rfl rfl aC (by simp[Value.oneCell']) (hS.p 3) rfl rfl ?_;clear hS;intro w hS;refine⟨.inl rfl,?_⟩;refine ai (by kernel_rfl) ?_ _;replace hA:=hA.kp [4,5,6] rfl
     first
      | exact⟨b5,b6,x,y,hA,((((((hS.p 3).p 3).p 5).p 5).p 4).p 5).cA [_,_,_,_,_,_],(by exact hx),(by exact hy)⟩
   ·refine eN hA rfl rfl db hS ?_;clear hA a hS;intro b6 w hS;intro a hA;refine⟨.inr fun _=>(by exact⟨[_,_,_],hS⟩),?_⟩;refine kN 3 4 (by kernel_rfl) ?_ ?_
    ·refine eF hA rfl rfl fO rfl (bD _ q (hq.sat hS) hlq) ?_;clear hA a;rintro e w ⟨y,rfl,hy,hT⟩;replace hS:Sat _ _ (_::_::_):=hS.ah hT;clear hT;refine⟨_,rfl,?_⟩;intro a hA;refine⟨.inl rfl,?_⟩;refine aG 4 (by kernel_rfl) ?_;refine eN hA rfl rfl db hS ?_;clear hA a hS;intro b5 w hS;intro a hA;refine⟨.inr fun _=>(by exact⟨[_,_,_,_,_,_],hS⟩),?_⟩;refine aG 6 (by kernel_rfl) ?_;refine cK (vs:=[_,_]) (cs':=[_,_]) hA rfl rfl rfl aC (by simp[Value.oneCell']) hS rfl rfl ?_;clear hS;intro w hS;refine⟨.inl rfl,?_⟩;refine aG 7 (by kernel_rfl) ?_;refine cK (vs:=[_,_]) (cs':=[_,_]) hA rfl rfl rfl aC (by simp[Value.oneCell']) (hS.p 3) rfl rfl ?_;clear hS;intro w hS;refine⟨.inl rfl,?_⟩;refine ai (by kernel_rfl) ?_ _;replace hA:=hA.kp [4,5,6] rfl
     first
      | exact⟨b5,b6,x,y,hA,((((((hS.p 3).p 3).p 5).p 5).p 4).p 5).cA [_,_,_,_,_,_],(by exact hx),(by exact hy)⟩
    ·refine eN hA rfl rfl db hS ?_;clear hA a hS;intro b5 w hS;intro a hA;refine⟨.inr fun _=>(by exact⟨[_,_,_,_],hS⟩),?_⟩;refine aG 3 (by kernel_rfl) ?_;refine eF hA rfl rfl fO rfl (bD _ q (hq.sat hS) hlq) ?_;clear hA a;rintro e w ⟨y,rfl,hy,hT⟩;replace hS:Sat _ _ (_::_::_):=hS.ah hT;clear hT;refine⟨_,rfl,?_⟩;intro a hA;refine⟨.inl rfl,?_⟩;refine aG 6 (by kernel_rfl) ?_;refine cK (vs:=[_,_]) (cs':=[_,_]) hA rfl rfl rfl aC (by simp[Value.oneCell']) (hS.p 2) rfl rfl ?_;clear hS;intro w hS;refine⟨.inl rfl,?_⟩;refine aG 7 (by kernel_rfl) ?_;refine cK (vs:=[_,_]) (cs':=[_,_]) hA rfl rfl rfl aC (by simp[Value.oneCell']) (hS.p 3) rfl rfl ?_;clear hS;intro w hS;refine⟨.inl rfl,?_⟩;refine ai (by kernel_rfl) ?_ _;replace hA:=hA.kp [4,5,6] rfl
     first
      | exact⟨b5,b6,x,y,hA,((((((hS.p 3).p 3).p 5).p 5).p 4).p 5).cA [_,_,_,_,_,_],(by exact hx),(by exact hy)⟩
  ·refine eN hA rfl rfl db hS ?_;clear hA a hS;intro b5 w hS;intro a hA;refine⟨.inr fun _=>(by exact⟨[_],hS⟩),?_⟩;refine kN 1 5 (by kernel_rfl) ?_ ?_
   ·refine eF hA rfl rfl fO rfl (bD _ p (hp.sat hS) hlp) ?_;clear hA a;rintro e w ⟨x,rfl,hx,hT⟩;replace hS:Sat _ _ (_::_::_):=hS.ah hT;clear hT;refine⟨_,rfl,?_⟩;intro a hA;refine⟨.inr fun _=>(by exact⟨[_,_,_],hS⟩),?_⟩;refine kN 3 5 (by kernel_rfl) ?_ ?_
    ·refine eF hA rfl rfl fO rfl (bD _ q (hq.sat hS) hlq) ?_;clear hA a;rintro e w ⟨y,rfl,hy,hT⟩;replace hS:Sat _ _ (_::_::_):=hS.ah hT;clear hT;refine⟨_,rfl,?_⟩;intro a hA;refine⟨.inl rfl,?_⟩;refine aG 5 (by kernel_rfl) ?_;refine eN hA rfl rfl db hS ?_;clear hA a hS;intro b6 w hS;intro a hA;refine⟨.inr fun _=>(by exact⟨[_,_,_,_,_,_],hS⟩),?_⟩;refine aG 6 (by kernel_rfl) ?_;refine cK (vs:=[_,_]) (cs':=[_,_]) hA rfl rfl rfl aC (by simp[Value.oneCell']) (hS.p 5) rfl rfl ?_;clear hS;intro w hS;refine⟨.inl rfl,?_⟩;refine aG 7 (by kernel_rfl) ?_;refine cK (vs:=[_,_]) (cs':=[_,_]) hA rfl rfl rfl aC (by simp[Value.oneCell']) (hS.p 1) rfl rfl ?_;clear hS;intro w hS;refine⟨.inl rfl,?_⟩;refine ai (by kernel_rfl) ?_ _;replace hA:=hA.kp [4,5,6] rfl
     first
      | exact⟨b5,b6,x,y,hA,((((((hS.p 3).p 3).p 5).p 5).p 4).p 5).cA [_,_,_,_,_,_],(by exact hx),(by exact hy)⟩
    ·refine eN hA rfl rfl db hS ?_;clear hA a hS;intro b6 w hS;intro a hA;refine⟨.inr fun _=>(by exact⟨[_,_,_,_],hS⟩),?_⟩;refine aG 3 (by kernel_rfl) ?_;refine eF hA rfl rfl fO rfl (bD _ q (hq.sat hS) hlq) ?_;clear hA a;rintro e w ⟨y,rfl,hy,hT⟩;replace hS:Sat _ _ (_::_::_):=hS.ah hT;clear hT;refine⟨_,rfl,?_⟩;intro a hA;refine⟨.inl rfl,?_⟩;refine aG 6 (by kernel_rfl) ?_;refine cK (vs:=[_,_]) (cs':=[_,_]) hA rfl rfl rfl aC (by simp[Value.oneCell']) (hS.p 5) rfl rfl ?_;clear hS;intro w hS;refine⟨.inl rfl,?_⟩;refine aG 7 (by kernel_rfl) ?_;refine cK (vs:=[_,_]) (cs':=[_,_]) hA rfl rfl rfl aC (by simp[Value.oneCell']) (hS.p 3) rfl rfl ?_;clear hS;intro w hS;refine⟨.inl rfl,?_⟩;refine ai (by kernel_rfl) ?_ _;replace hA:=hA.kp [4,5,6] rfl
     first
      | exact⟨b5,b6,x,y,hA,((((((hS.p 3).p 3).p 5).p 5).p 4).p 5).cA [_,_,_,_,_,_],(by exact hx),(by exact hy)⟩
   ·refine eN hA rfl rfl db hS ?_;clear hA a hS;intro b6 w hS;intro a hA;refine⟨.inr fun _=>(by exact⟨[_,_],hS⟩),?_⟩;refine aG 1 (by kernel_rfl) ?_;refine eF hA rfl rfl fO rfl (bD _ p (hp.sat hS) hlp) ?_;clear hA a;rintro e w ⟨x,rfl,hx,hT⟩;replace hS:Sat _ _ (_::_::_):=hS.ah hT;clear hT;refine⟨_,rfl,?_⟩;intro a hA;refine⟨.inr fun _=>(by exact⟨[_,_,_,_],hS⟩),?_⟩;refine aG 3 (by kernel_rfl) ?_;refine eF hA rfl rfl fO rfl (bD _ q (hq.sat hS) hlq) ?_;clear hA a;rintro e w ⟨y,rfl,hy,hT⟩;replace hS:Sat _ _ (_::_::_):=hS.ah hT;clear hT;refine⟨_,rfl,?_⟩;intro a hA;refine⟨.inl rfl,?_⟩;refine aG 6 (by kernel_rfl) ?_;refine cK (vs:=[_,_]) (cs':=[_,_]) hA rfl rfl rfl aC (by simp[Value.oneCell']) (hS.p 5) rfl rfl ?_;clear hS;intro w hS;refine⟨.inl rfl,?_⟩;refine aG 7 (by kernel_rfl) ?_
    refine cK (vs:=[_,_]) (cs':=[_,_]) hA rfl rfl rfl aC (by simp[Value.oneCell']) (hS.p 5) rfl rfl ?_;clear hS;intro w hS;refine⟨.inl rfl,?_⟩;refine ai (by kernel_rfl) ?_ _;replace hA:=hA.kp [4,5,6] rfl
    first
     | exact⟨b5,b6,x,y,hA,((((((hS.p 3).p 3).p 5).p 5).p 4).p 5).cA [_,_,_,_,_,_],(by exact hx),(by exact hy)⟩
  ·refine eN hA rfl rfl db hS ?_;clear hA a hS;intro b6 w hS;intro a hA;refine⟨.inr fun _=>(by exact⟨[_],hS⟩),?_⟩;refine kN 1 4 (by kernel_rfl) ?_ ?_
   ·refine eF hA rfl rfl fO rfl (bD _ p (hp.sat hS) hlp) ?_;clear hA a;rintro e w ⟨x,rfl,hx,hT⟩;replace hS:Sat _ _ (_::_::_):=hS.ah hT;clear hT;refine⟨_,rfl,?_⟩;intro a hA;refine⟨.inr fun _=>(by exact⟨[_,_,_],hS⟩),?_⟩;refine kN 3 4 (by kernel_rfl) ?_ ?_
    ·refine eF hA rfl rfl fO rfl (bD _ q (hq.sat hS) hlq) ?_;clear hA a;rintro e w ⟨y,rfl,hy,hT⟩;replace hS:Sat _ _ (_::_::_):=hS.ah hT;clear hT;refine⟨_,rfl,?_⟩;intro a hA;refine⟨.inl rfl,?_⟩;refine aG 4 (by kernel_rfl) ?_;refine eN hA rfl rfl db hS ?_;clear hA a hS;intro b5 w hS;intro a hA;refine⟨.inr fun _=>(by exact⟨[_,_,_,_,_,_],hS⟩),?_⟩;refine aG 6 (by kernel_rfl) ?_;refine cK (vs:=[_,_]) (cs':=[_,_]) hA rfl rfl rfl aC (by simp[Value.oneCell']) hS rfl rfl ?_;clear hS;intro w hS;refine⟨.inl rfl,?_⟩;refine aG 7 (by kernel_rfl) ?_;refine cK (vs:=[_,_]) (cs':=[_,_]) hA rfl rfl rfl aC (by simp[Value.oneCell']) (hS.p 5) rfl rfl ?_;clear hS;intro w hS;refine⟨.inl rfl,?_⟩;refine ai (by kernel_rfl) ?_ _;replace hA:=hA.kp [4,5,6] rfl
     first
      | exact⟨b5,b6,x,y,hA,((((((hS.p 3).p 3).p 5).p 5).p 4).p 5).cA [_,_,_,_,_,_],(by exact hx),(by exact hy)⟩
    ·refine eN hA rfl rfl db hS ?_;clear hA a hS;intro b5 w hS;intro a hA;refine⟨.inr fun _=>(by exact⟨[_,_,_,_],hS⟩),?_⟩;refine aG 3 (by kernel_rfl) ?_;refine eF hA rfl rfl fO rfl (bD _ q (hq.sat hS) hlq) ?_;clear hA a;rintro e w ⟨y,rfl,hy,hT⟩;replace hS:Sat _ _ (_::_::_):=hS.ah hT;clear hT;refine⟨_,rfl,?_⟩;intro a hA;refine⟨.inl rfl,?_⟩;refine aG 6 (by kernel_rfl) ?_;refine cK (vs:=[_,_]) (cs':=[_,_]) hA rfl rfl rfl aC (by simp[Value.oneCell']) (hS.p 2) rfl rfl ?_;clear hS;intro w hS;refine⟨.inl rfl,?_⟩;refine aG 7 (by kernel_rfl) ?_;refine cK (vs:=[_,_]) (cs':=[_,_]) hA rfl rfl rfl aC (by simp[Value.oneCell']) (hS.p 5) rfl rfl ?_;clear hS;intro w hS;refine⟨.inl rfl,?_⟩;refine ai (by kernel_rfl) ?_ _;replace hA:=hA.kp [4,5,6] rfl
     first
      | exact⟨b5,b6,x,y,hA,((((((hS.p 3).p 3).p 5).p 5).p 4).p 5).cA [_,_,_,_,_,_],(by exact hx),(by exact hy)⟩
   ·refine eN hA rfl rfl db hS ?_;clear hA a hS;intro b5 w hS;intro a hA;refine⟨.inr fun _=>(by exact⟨[_,_],hS⟩),?_⟩;refine aG 1 (by kernel_rfl) ?_;refine eF hA rfl rfl fO rfl (bD _ p (hp.sat hS) hlp) ?_;clear hA a;rintro e w ⟨x,rfl,hx,hT⟩;replace hS:Sat _ _ (_::_::_):=hS.ah hT;clear hT;refine⟨_,rfl,?_⟩;intro a hA;refine⟨.inr fun _=>(by exact⟨[_,_,_,_],hS⟩),?_⟩;refine aG 3 (by kernel_rfl) ?_;refine eF hA rfl rfl fO rfl (bD _ q (hq.sat hS) hlq) ?_;clear hA a;rintro e w ⟨y,rfl,hy,hT⟩;replace hS:Sat _ _ (_::_::_):=hS.ah hT;clear hT;refine⟨_,rfl,?_⟩;intro a hA;refine⟨.inl rfl,?_⟩;refine aG 6 (by kernel_rfl) ?_;refine cK (vs:=[_,_]) (cs':=[_,_]) hA rfl rfl rfl aC (by simp[Value.oneCell']) (hS.p 4) rfl rfl ?_;clear hS;intro w hS;refine⟨.inl rfl,?_⟩;refine aG 7 (by kernel_rfl) ?_
    refine cK (vs:=[_,_]) (cs':=[_,_]) hA rfl rfl rfl aC (by simp[Value.oneCell']) (hS.p 5) rfl rfl ?_;clear hS;intro w hS;refine⟨.inl rfl,?_⟩;refine ai (by kernel_rfl) ?_ _;replace hA:=hA.kp [4,5,6] rfl
    first
     | exact⟨b5,b6,x,y,hA,((((((hS.p 3).p 3).p 5).p 5).p 4).p 5).cA [_,_,_,_,_,_],(by exact hx),(by exact hy)⟩
 ·intro a w hI;clear hS hA;obtain⟨b5,b6,x,y,hA,hS,hx,hy⟩:=hI;have hcx:=jr p.d;rw[←hx]at hcx;have hcy:=jr q.d;rw[←hy]at hcy;have hlx:=lj p.d;rw[←hx]at hlx;have hly:=lj q.d;rw[←hy]at hly;have hxv:=hcx.len;have hyv:=hcy.len;obtain⟨xva,xvc,xca,xcc,xd⟩:=x;obtain⟨yva,yvc,yca,ycc,yd⟩:=y;dsimp only at hS hA hx hy hcx hcy hlx hly hxv hyv;refine rC 7 hA ?_;clear hA a;intro a hA
  refine wp_loop_ghost (fun (mm:Nat) a w=>∃(r:Nat),Ag a 49 [(5,.pointer (some ⟨b5,0,none⟩)),(6,.pointer (some ⟨b6,0,none⟩)),(14,.int .i64 ((r:Nat):Int))]∧Sat W w ([aS b5 (.cells #[.slice xva xd.vec.length xvc,.slice xca xd.ad.length xcc] 63),aS b6 (.cells #[.slice yva yd.vec.length yvc,.slice yca yd.ad.length ycc] 63),ej 3 xva xvc xd.vec,bG 219 xca xcc xd.ad,ej 3 yva yvc yd.vec,bG 219 yca ycc yd.ad])∧(r≤16)∧(cF (((List.range 16).map fun r=>mn (aL xd.vec r) (aL yd.vec r)).take r)=0)∧mm=16-r) 16 ?_ ?_
  ·replace hA:=hA.kp [5,6,14] rfl;exact⟨0,hA,hS,(by omega),(by rfl),by omega⟩
  intro m a w hI;clear hS hA;obtain⟨r,hA,hS,hr,he,rfl⟩:=hI;refine rC 2 hA ?_;clear hA a;refine ba 0 0 (aA rfl rfl) ?_ ?_
  ·intro h15;refine uO 24 ?_;refine u1 0 (aa rfl cQ) ?_;refine u1 0 (ld rfl gS) ?_;refine u1 0 (au rfl bu) ?_;refine ba 0 0 (aA rfl rfl) ?_ ?_
   ·intro h21;refine uO 4 ?_;refine u1 0 (aa rfl cQ) ?_;refine u1 1 (ld rfl gS) ?_;obtain⟨xva_p,rfl⟩:∃q,xva=some q:=(hS.p 2).rd.aw (by omega);obtain⟨v1,hv1⟩:∃zz_,xd.vec[r]?=some zz_:=⟨_,List.getElem?_eq_getElem (by omega)⟩;refine u1 0 (an rfl rfl bu kz (by omega) (by omega)) ?_;refine u1 7 (av rfl bq (ml (hS.p 2).rd (ey hv1))) ?_;refine u1 0 (aa rfl cQ) ?_;refine u1 0 (ld rfl gS) ?_;refine u1 0 (au rfl bu) ?_;refine ba 0 0 (aA rfl rfl) ?_ ?_
    ·intro h31;refine uO 4 ?_;refine u1 0 (aa rfl cQ) ?_;refine u1 1 (ld rfl gS) ?_;obtain⟨yva_p,rfl⟩:∃q,yva=some q:=(hS.p 4).rd.aw (by omega);obtain⟨v2,hv2⟩:∃zz_,yd.vec[r]?=some zz_:=⟨_,List.getElem?_eq_getElem (by omega)⟩;refine u1 0 (an rfl rfl bu kz (by omega) (by omega)) ?_;refine u1 7 (av rfl bq (ml (hS.p 4).rd (ey hv2))) ?_;refine ba 0 0 (aD rfl rfl) ?_ ?_
     ·intro h39;refine uO 7 ?_;refine uF sF rfl (eI _ _ _) ?_;rintro e w ⟨rfl,hT⟩;replace hS:Sat _ _ _:=hS.ah hT;clear hT;refine⟨_,rfl,?_⟩;refine uO 9 ?_;refine bt ?_;have hg:((List.range 16).map fun r=>mn (aL xd.vec r) (aL yd.vec r))[r]?=some (mn (aL xd.vec r) (aL yd.vec r)):=by rw[List.getElem?_map,List.getElem?_range (by omega)];rfl
      have hvx:=fy hv1;have hvy:=fy hv2;have hne:mn (aL xd.vec r) (aL yd.vec r)≠0:=by rw[hvx,hvy];exact wu h39
      have hz:=nE hg he hne;refine⟨?_,hS.nil⟩;unfold yl zT;rw[←hx,←hy,dA,hz,if_neg hne,hvx,hvy]
     ·intro h39;refine uO 7 ?_;refine u1 2 (aj rfl rfl (by omega) (by omega)) ?_;intro a hA;replace hA:=hA.kp [5,6,14] rfl;have hg:((List.range 16).map fun r=>mn (aL xd.vec r) (aL yd.vec r))[r]?=some (mn (aL xd.vec r) (aL yd.vec r)):=by rw[List.getElem?_map,List.getElem?_range (by omega)];rfl
      have hvx:=fy hv1;have hvy:=fy hv2;exact⟨16-(r+1),by omega,r+1,hA,hS,by omega,mX hg he (by rw[hvx,hvy];exact lg.2 (by omega)),rfl⟩
    ·intro h31;refine uO 9 ?_;refine ba 0 0 (aD rfl rfl) ?_ ?_
     ·intro h39;refine uO 7 ?_;refine uF sF rfl (eI _ _ _) ?_;rintro e w ⟨rfl,hT⟩;replace hS:Sat _ _ _:=hS.ah hT;clear hT;refine⟨_,rfl,?_⟩;refine uO 9 ?_;refine bt ?_;have hg:((List.range 16).map fun r=>mn (aL xd.vec r) (aL yd.vec r))[r]?=some (mn (aL xd.vec r) (aL yd.vec r)):=by rw[List.getElem?_map,List.getElem?_range (by omega)];rfl
      have hvx:=fy hv1;have hvy:aL yd.vec r=0:=fI (by omega);have hne:mn (aL xd.vec r) (aL yd.vec r)≠0:=by rw[hvx,hvy];exact wu h39
      have hz:=nE hg he hne;refine⟨?_,hS.nil⟩;unfold yl zT;rw[←hx,←hy,dA,hz,if_neg hne,hvx,hvy]
     ·intro h39;refine uO 7 ?_;refine u1 2 (aj rfl rfl (by omega) (by omega)) ?_;intro a hA;replace hA:=hA.kp [5,6,14] rfl;have hg:((List.range 16).map fun r=>mn (aL xd.vec r) (aL yd.vec r))[r]?=some (mn (aL xd.vec r) (aL yd.vec r)):=by rw[List.getElem?_map,List.getElem?_range (by omega)];rfl
      have hvx:=fy hv1;have hvy:aL yd.vec r=0:=fI (by omega);exact⟨16-(r+1),by omega,r+1,hA,hS,by omega,mX hg he (by rw[hvx,hvy];exact lg.2 (by omega)),rfl⟩
   ·intro h21;refine uO 9 ?_;refine u1 0 (aa rfl cQ) ?_;refine u1 0 (ld rfl gS) ?_;refine u1 0 (au rfl bu) ?_;refine ba 0 0 (aA rfl rfl) ?_ ?_
    ·intro h31;refine uO 4 ?_;refine u1 0 (aa rfl cQ) ?_;refine u1 1 (ld rfl gS) ?_;obtain⟨yva_p,rfl⟩:∃q,yva=some q:=(hS.p 4).rd.aw (by omega);obtain⟨v2,hv2⟩:∃zz_,yd.vec[r]?=some zz_:=⟨_,List.getElem?_eq_getElem (by omega)⟩;refine u1 0 (an rfl rfl bu kz (by omega) (by omega)) ?_;refine u1 7 (av rfl bq (ml (hS.p 4).rd (ey hv2))) ?_;refine ba 0 0 (aD rfl rfl) ?_ ?_
     ·intro h39;refine uO 7 ?_;refine uF sF rfl (eI _ _ _) ?_;rintro e w ⟨rfl,hT⟩;replace hS:Sat _ _ _:=hS.ah hT;clear hT;refine⟨_,rfl,?_⟩;refine uO 9 ?_;refine bt ?_;have hg:((List.range 16).map fun r=>mn (aL xd.vec r) (aL yd.vec r))[r]?=some (mn (aL xd.vec r) (aL yd.vec r)):=by rw[List.getElem?_map,List.getElem?_range (by omega)];rfl
      have hvx:aL xd.vec r=0:=fI (by omega);have hvy:=fy hv2;have hne:mn (aL xd.vec r) (aL yd.vec r)≠0:=by rw[hvx,hvy];exact wu h39
      have hz:=nE hg he hne;refine⟨?_,hS.nil⟩;unfold yl zT;rw[←hx,←hy,dA,hz,if_neg hne,hvx,hvy]
     ·intro h39;refine uO 7 ?_;refine u1 2 (aj rfl rfl (by omega) (by omega)) ?_;intro a hA;replace hA:=hA.kp [5,6,14] rfl;have hg:((List.range 16).map fun r=>mn (aL xd.vec r) (aL yd.vec r))[r]?=some (mn (aL xd.vec r) (aL yd.vec r)):=by rw[List.getElem?_map,List.getElem?_range (by omega)];rfl
      have hvx:aL xd.vec r=0:=fI (by omega);have hvy:=fy hv2;exact⟨16-(r+1),by omega,r+1,hA,hS,by omega,mX hg he (by rw[hvx,hvy];exact lg.2 (by omega)),rfl⟩
    ·intro h31;refine uO 9 ?_;refine u1 7 (cV (aD rfl rfl) (by omega)) ?_;refine u1 2 (aj rfl rfl (by omega) (by omega)) ?_;intro a hA;replace hA:=hA.kp [5,6,14] rfl;have hg:((List.range 16).map fun r=>mn (aL xd.vec r) (aL yd.vec r))[r]?=some (mn (aL xd.vec r) (aL yd.vec r)):=by rw[List.getElem?_map,List.getElem?_range (by omega)];rfl
     have hvx:aL xd.vec r=0:=fI (by omega);have hvy:aL yd.vec r=0:=fI (by omega);exact⟨16-(r+1),by omega,r+1,hA,hS,by omega,mX hg he (by rw[hvx,hvy];exact lg.2 (by omega)),rfl⟩
  ·intro h15;refine uO 11 ?_;refine u1 0 (aa rfl dg) ?_;refine u1 0 (ld rfl iM) ?_;refine u1 0 (aa rfl dg) ?_;refine u1 0 (ld rfl iM) ?_;refine uF FK rfl (qL _ xca xcc xd.ad yca ycc yd.ad (hS.p 3).rd (hS.p 5).rd (by omega) (by omega)) ?_;rintro e w ⟨rfl,hT⟩;replace hS:Sat _ _ _:=hS.ah hT;clear hT;refine⟨_,rfl,?_⟩;refine uO 4 ?_;refine bt ?_;rw[List.take_of_length_le (by simp;omega)]at he;refine⟨?_,hS.nil⟩;unfold yl zT;rw[←hx,←hy,dA,he,if_pos rfl,cF]
   split<;>rename_i hc
   ·rw[hc];rfl
   ·rfl
theorem mi (W:World)(p q:PL)(hp:p.ok W)(hq:q.ok W)(hlp:p.d.ad.length≤10000000000)(hlq:q.d.ad.length≤10000000000):Calls Tryz.prog 354 #[.agg #[.slice p.va p.d.vec.length p.vc,.slice p.ca p.d.ad.length p.cc],.agg #[.slice q.va q.d.vec.length q.vc,.slice q.ca q.d.ad.length q.cc]] W fun e w'=>e=.returned (.bool (c4 p.d q.d))∧Sat W w' []:=by
 refine enter Tryz.func354 rfl rfl rfl (.cons (i:=0) rfl (.cons (i:=1) rfl .nil)) ?_;have hS:=Sat.start W;refine uC 2 ?_;refine uB rfl hS ?_;clear hS;intro b2 w hS;refine uB rfl hS ?_;clear hS;intro b3 w hS;refine uO 3 ?_;intro a hA;replace hA:=hA.kp [2,3,4] rfl;refine iD (fun a w=>∃(t1 t2:Nat) (ls1 ls2:List (Loc aX)),Ag a 39 [(4,.bool false),(5,.pointer (some ⟨t1,0,none⟩)),(6,.pointer (some ⟨t2,0,none⟩))]∧Sat W w ([gE 355 t1 ls1,bR (ls1.map (Loc.fR 357)),gE 355 t2 ls2,bR (ls2.map (Loc.fR 357))])∧(fb ls1 (bY p.d))∧(fb ls2 (bY q.d))) ?_ ?_
 ·refine bB [5] hS (by kernel_rfl) ?_;replace hS:=hS.drew;refine X1 0 [] hA rfl (by exact⟨[],hS⟩) (fun w hT=>have hS:=hT.sat;(ag (cs:=[_,_]) (hA.ev rfl) bj aC (by exact (hS.p 1).ab (xs:=[_,_]) rfl))) ?_;clear hA a;refine dH 3 [] rfl (by exact⟨[],hS⟩) (fun w hT=>have hS:=hT.sat;(ag (cs:=[_,_]) rfl bj aC (by exact hS.ab (xs:=[_,_]) rfl))) ?_;intro a hA;refine kN 1 4 (by kernel_rfl) ?_ ?_
  ·refine tk (vss:=[[_,_]]) hA rfl rfl rfl gr nR rfl rfl rfl (by simp) rfl hS ?_;clear hA a hS;intro A9 w hS;intro a hA;refine⟨.inr fun _=>(by exact⟨[_],hS⟩),?_⟩;refine kN 2 4 (by kernel_rfl) ?_ ?_
   ·refine eF hA rfl rfl iu rfl (iV _ _ _ p (by exact hS.rd) (hp.sat hS) hlp) ?_;clear hA a;rintro e w ⟨t1,ls1,rfl,hT1,hT⟩;replace hS:Sat _ _ (_::_::_):=hS.ah hT;clear hT;refine⟨_,rfl,?_⟩;intro a hA;refine⟨.inr fun _=>(by exact⟨[_,_,_],hS⟩),?_⟩;refine aG 4 (by kernel_rfl) ?_;refine tk (vss:=[[_,_]]) hA rfl rfl rfl gr nR rfl rfl rfl (by simp) rfl hS ?_;clear hA a hS;intro A12 w hS;intro a hA;refine⟨.inr fun _=>(by exact⟨[_,_,_,_],hS⟩),?_⟩;refine aG 5 (by kernel_rfl) ?_;refine eF hA rfl rfl iu rfl (iV _ _ _ q (by exact hS.rd) (hq.sat hS) hlq) ?_;clear hA a;rintro e w ⟨t2,ls2,rfl,hT2,hT⟩;replace hS:Sat _ _ (_::_::_):=hS.ah hT;clear hT;refine⟨_,rfl,?_⟩;intro a hA;refine⟨.inl rfl,?_⟩;refine rX [6,7] hA ?_;clear hA a;intro a hA;refine ai (by kernel_rfl) ?_ _;replace hA:=hA.kp [4,5,6] rfl
    first
     | exact⟨t1,t2,ls1,ls2,hA,((((hS.p 1).p 1).p 4).p 4).cA [_,_,_,_],(by exact hT1),(by exact hT2)⟩
   ·refine tk (vss:=[[_,_]]) hA rfl rfl rfl gr nR rfl rfl rfl (by simp) rfl hS ?_;clear hA a hS;intro A12 w hS;intro a hA;refine⟨.inr fun _=>(by exact⟨[_,_],hS⟩),?_⟩;refine aG 2 (by kernel_rfl) ?_;refine eF hA rfl rfl iu rfl (iV _ _ _ p (by exact (hS.p 1).rd) (hp.sat hS) hlp) ?_;clear hA a;rintro e w ⟨t1,ls1,rfl,hT1,hT⟩;replace hS:Sat _ _ (_::_::_):=hS.ah hT;clear hT;refine⟨_,rfl,?_⟩;intro a hA;refine⟨.inr fun _=>(by exact⟨[_,_,_,_],hS⟩),?_⟩;refine aG 5 (by kernel_rfl) ?_;refine eF hA rfl rfl iu rfl (iV _ _ _ q (by exact (hS.p 2).rd) (hq.sat hS) hlq) ?_;clear hA a;rintro e w ⟨t2,ls2,rfl,hT2,hT⟩;replace hS:Sat _ _ (_::_::_):=hS.ah hT;clear hT;refine⟨_,rfl,?_⟩;intro a hA;refine⟨.inl rfl,?_⟩;refine rX [6,7] hA ?_;clear hA a;intro a hA;refine ai (by kernel_rfl) ?_ _;replace hA:=hA.kp [4,5,6] rfl
    first
     | exact⟨t1,t2,ls1,ls2,hA,((((hS.p 1).p 1).p 3).p 3).cA [_,_,_,_],(by exact hT1),(by exact hT2)⟩
  ·refine tk (vss:=[[_,_]]) hA rfl rfl rfl gr nR rfl rfl rfl (by simp) rfl hS ?_;clear hA a hS;intro A12 w hS;intro a hA;refine⟨.inr fun _=>(by exact⟨[_],hS⟩),?_⟩;refine aG 1 (by kernel_rfl) ?_;refine tk (vss:=[[_,_]]) hA rfl rfl rfl gr nR rfl rfl rfl (by simp) rfl hS ?_;clear hA a hS;intro A9 w hS;intro a hA;refine⟨.inr fun _=>(by exact⟨[_,_],hS⟩),?_⟩;refine aG 2 (by kernel_rfl) ?_;refine eF hA rfl rfl iu rfl (iV _ _ _ p (by exact hS.rd) (hp.sat hS) hlp) ?_;clear hA a;rintro e w ⟨t1,ls1,rfl,hT1,hT⟩;replace hS:Sat _ _ (_::_::_):=hS.ah hT;clear hT;refine⟨_,rfl,?_⟩;intro a hA;refine⟨.inr fun _=>(by exact⟨[_,_,_,_],hS⟩),?_⟩;refine aG 5 (by kernel_rfl) ?_;refine eF hA rfl rfl iu rfl (iV _ _ _ q (by exact (hS.p 3).rd) (hq.sat hS) hlq) ?_;clear hA a;rintro e w ⟨t2,ls2,rfl,hT2,hT⟩;replace hS:Sat _ _ (_::_::_):=hS.ah hT;clear hT;refine⟨_,rfl,?_⟩
   intro a hA;refine⟨.inl rfl,?_⟩;refine rX [6,7] hA ?_;clear hA a;intro a hA;refine ai (by kernel_rfl) ?_ _;replace hA:=hA.kp [4,5,6] rfl
   first
    | exact⟨t1,t2,ls1,ls2,hA,((((hS.p 1).p 1).p 3).p 3).cA [_,_,_,_],(by exact hT1),(by exact hT2)⟩
 ·intro a w hI;clear hS hA;obtain⟨t1,t2,ls1,ls2,hA,hS,hT1,hT2⟩:=hI;refine rC 7 hA ?_;clear hA a;intro a hA;refine wp_loop_ghost (fun (mm:Nat) a w=>∃(r:Nat),Ag a 39 [(5,.pointer (some ⟨t1,0,none⟩)),(6,.pointer (some ⟨t2,0,none⟩)),(14,.int .i64 ((r:Nat):Int))]∧Sat W w ([gE 355 t1 ls1,bR (ls1.map (Loc.fR 357)),gE 355 t2 ls2,bR (ls2.map (Loc.fR 357))])∧(r≤16)∧(∀k,k<r→dK (aq (bY p.d k)) (aq (bY q.d k))=[])∧mm=16-r) 16 ?_ ?_
  ·replace hA:=hA.kp [5,6,14] rfl;exact⟨0,hA,hS,(by omega),(by exact fun k hk=>absurd hk (Nat.not_lt_zero k)),by omega⟩
  intro m a w hI;clear hS hA;obtain⟨r,hA,hS,hr,hw,rfl⟩:=hI;refine rC 2 hA ?_;clear hA a;refine ba 0 0 (aA rfl rfl) ?_ ?_
  ·intro h15;obtain⟨lA,lc,hl1⟩:=hT1.get (show r<16 by omega);obtain⟨mA,mc,hl2⟩:=hT2.get (show r<16 by omega);have hrl:=oE hlp r (by omega);have hrm:=oE hlq r (by omega);refine uO 15 ?_;intro a hA;refine bB [18] hS (by kernel_rfl) ?_;replace hS:=hS.drew;refine rX [0,1] hA ?_;clear hA a;refine bF 2 [] rfl (fun w=>(aI rfl)) ?_;refine bF 3 [] rfl (fun w=>(bI rfl rfl iY fH (by omega) (by omega))) ?_;refine dH 4 [] rfl (by exact⟨[],hS⟩) (fun w hT=>have hS:=hT.sat;(av rfl iA (eS hS hl1))) ?_;refine bF 5 [] rfl (fun w=>(au rfl bo)) ?_;intro a hA;refine K.EX 6 hA pk rfl rfl rfl rfl (by kernel_rfl) (by kernel_rfl) (by kernel_rfl) (fun w=>(dW (hA.ev rfl) (hA.ev rfl))) ?_ ?_
   ·clear hA a;intro h23;intro a hA;dsimp only at h23;refine rX [7,8,9] hA ?_;clear hA a;refine bF 10 [] rfl (fun w=>(aI rfl)) ?_;refine bF 11 [] rfl (fun w=>(bI rfl rfl iY fH (by omega) (by omega))) ?_;refine dH 12 [13,14] rfl (by exact⟨[],hS⟩) (fun w hT=>have hS:=hT.sat;(av rfl iA (eS hS hl1))) ?_;refine bF 15 [] rfl (fun w=>(aI rfl)) ?_;refine bF 16 [] rfl (fun w=>(bI rfl rfl iY fH (by omega) (by omega))) ?_;refine dH 17 [] rfl (by exact⟨[],hS⟩) (fun w hT=>have hS:=hT.sat;(av rfl iA (eS (hS.p 2) hl2))) ?_;intro a hA;refine aG 18 (by kernel_rfl) ?_;refine DJ hA rfl (ar hA rfl rfl rfl) rfl Fw rfl (tu _ lA lc (bY p.d r) mA mc (bY q.d r) (oI (hS.p 1) hl1) (oI (hS.p 3) hl2) hrl hrm) ?_;clear hA a;rintro e w ⟨rfl,hT⟩;replace hS:Sat _ _ _:=hS.ah hT;clear hT;refine⟨_,rfl,?_⟩
    intro a hA;refine⟨.inl rfl,?_⟩;refine K.DB 19 hA pk rfl (ar hA rfl rfl rfl) rfl rfl (by kernel_rfl) (by kernel_rfl) (by kernel_rfl) (fun w=>(aR (hA.ev rfl))) ?_ ?_
    ·clear hA a;intro h36;intro a hA;simp only[decide_eq_decide,decide_eq_true_eq,decide_eq_false_iff_not,Bool.not_eq_true',Bool.not_eq_false',bne_iff_ne,ne_eq,beq_iff_eq,Bool.not_eq_true,Bool.not_eq_false]at h36;refine rX [20] hA ?_;clear hA a;intro a hA;refine ai (by kernel_rfl) ?_ _;refine rE 13 hA ?_;clear hA a;refine bt ?_;exact⟨by rw[yA (by omega) h36],hS.nil⟩
    ·clear hA a;intro h36;intro a hA;simp only[decide_eq_decide,decide_eq_true_eq,decide_eq_false_iff_not,Bool.not_eq_true',Bool.not_eq_false',bne_iff_ne,ne_eq,beq_iff_eq,Bool.not_eq_true,Bool.not_eq_false]at h36;refine rX [20] hA ?_;clear hA a;intro a hA;refine ai (by kernel_rfl) ?_ _;refine rE 6 hA ?_;clear hA a;refine u1 2 (aj rfl rfl (by omega) (by omega)) ?_;intro a hA;replace hA:=hA.kp [5,6,14] rfl;refine⟨16-(r+1),by omega,r+1,hA,hS,by omega,fun k hk=>?_,rfl⟩;rcases Nat.lt_or_ge k r with hkr | hkr
     ·exact hw k hkr
     ·obtain rfl:k=r:=by omega
      exact h36
   ·clear hA a;intro h23;intro a hA;dsimp only at h23;refine rX [7,8,9,10,11,12,13,14,15,16,17,18,19,20] hA ?_;clear hA a;intro a hA;refine ai (by kernel_rfl) ?_ _;refine rE 6 hA ?_;clear hA a;refine u1 2 (aj rfl rfl (by omega) (by omega)) ?_;intro a hA;replace hA:=hA.kp [5,6,14] rfl;refine⟨16-(r+1),by omega,r+1,hA,hS,by omega,fun k hk=>?_,rfl⟩;rcases Nat.lt_or_ge k r with hkr | hkr
    ·exact hw k hkr
    ·obtain rfl:k=r:=by omega
     exact vp _ (by omega)
  ·intro h15;refine uO 15 ?_;refine bt ?_;exact⟨by rw[wR fun k hk=>hw k (by omega)],hS.nil⟩
theorem wi (W:World)(p q:PL)(hp:p.ok W)(hq:q.ok W)(hlp:p.d.ad.length≤10000000000)(hlq:q.d.ad.length≤10000000000):Calls Tryz.prog 390 #[.agg #[.slice p.va p.d.vec.length p.vc,.slice p.ca p.d.ad.length p.cc],.agg #[.slice q.va q.d.vec.length q.vc,.slice q.ca q.d.ad.length q.cc],.func (.func 388) #[] #[]] W fun e w'=>∃z:PL,e=.returned (.agg #[.slice z.va z.d.vec.length z.vc,.slice z.ca z.d.ad.length z.cc])∧z.d=jo p.d q.d∧Sat W w' [ej 3 z.va z.vc z.d.vec,bG 219 z.ca z.cc z.d.ad]:=by
 refine enter Tryz.func390 rfl rfl rfl (.cons (i:=0) rfl (.cons (i:=1) rfl (.cons (i:=2) rfl .nil))) ?_;have hS:=Sat.start W;refine uC 2 ?_;refine uB rfl hS ?_;clear hS;intro b3 w hS;refine uB rfl hS ?_;clear hS;intro b4 w hS;refine uN db hS ?_;clear hS;intro b6 w hS;refine uO 2 ?_;intro a hA;replace hA:=hA.kp [2,3,4,6] rfl;refine iD (fun a w=>∃(t1 t2:Nat) (ls1 ls2:List (Loc aX)),Ag a 38 [(2,.func (.func 388) #[] #[]),(6,.pointer (some ⟨b6,0,none⟩)),(7,.pointer (some ⟨t1,0,none⟩)),(8,.pointer (some ⟨t2,0,none⟩))]∧Sat W w ([gE 355 t1 ls1,bR (ls1.map (Loc.fR 357)),gE 355 t2 ls2,bR (ls2.map (Loc.fR 357)),aS b6 (.cells #[.slice none 0 0,.slice none 0 0] 63)])∧(fb ls1 (bY p.d))∧(fb ls2 (bY q.d))) ?_ ?_
 ·refine bB [5] hS (by kernel_rfl) ?_;replace hS:=hS.drew;refine X1 0 [] hA rfl (by exact⟨[],hS⟩) (fun w hT=>have hS:=hT.sat;(ag (cs:=[_,_]) (hA.ev rfl) bj aC (by exact (hS.p 2).ab (xs:=[_,_]) rfl))) ?_;clear hA a;refine dH 3 [] rfl (by exact⟨[],hS⟩) (fun w hT=>have hS:=hT.sat;(ag (cs:=[_,_]) rfl bj aC (by exact (hS.p 1).ab (xs:=[_,_]) rfl))) ?_;intro a hA;refine kN 1 4 (by kernel_rfl) ?_ ?_
  ·refine tk (vss:=[[_,_]]) hA rfl rfl rfl gr nR rfl rfl rfl (by simp) rfl hS ?_;clear hA a hS;intro A11 w hS;intro a hA;refine⟨.inr fun _=>(by exact⟨[_],hS⟩),?_⟩;refine kN 2 4 (by kernel_rfl) ?_ ?_
   ·refine eF hA rfl rfl iu rfl (iV _ _ _ p (by exact hS.rd) (hp.sat hS) hlp) ?_;clear hA a;rintro e w ⟨t1,ls1,rfl,hT1,hT⟩;replace hS:Sat _ _ (_::_::_):=hS.ah hT;clear hT;refine⟨_,rfl,?_⟩;intro a hA;refine⟨.inr fun _=>(by exact⟨[_,_,_],hS⟩),?_⟩;refine aG 4 (by kernel_rfl) ?_;refine tk (vss:=[[_,_]]) hA rfl rfl rfl gr nR rfl rfl rfl (by simp) rfl hS ?_;clear hA a hS;intro A14 w hS;intro a hA;refine⟨.inr fun _=>(by exact⟨[_,_,_,_],hS⟩),?_⟩;refine aG 5 (by kernel_rfl) ?_;refine eF hA rfl rfl iu rfl (iV _ _ _ q (by exact hS.rd) (hq.sat hS) hlq) ?_;clear hA a;rintro e w ⟨t2,ls2,rfl,hT2,hT⟩;replace hS:Sat _ _ (_::_::_):=hS.ah hT;clear hT;refine⟨_,rfl,?_⟩;intro a hA;refine⟨.inl rfl,?_⟩;refine rX [6,7] hA ?_;clear hA a;intro a hA;refine ai (by kernel_rfl) ?_ _;replace hA:=hA.kp [2,6,7,8] rfl
    first
     | exact⟨t1,t2,ls1,ls2,hA,(((((hS.p 6).p 2).p 2).p 5).p 5).cA [_,_,_,_,_],(by exact hT1),(by exact hT2)⟩
   ·refine tk (vss:=[[_,_]]) hA rfl rfl rfl gr nR rfl rfl rfl (by simp) rfl hS ?_;clear hA a hS;intro A14 w hS;intro a hA;refine⟨.inr fun _=>(by exact⟨[_,_],hS⟩),?_⟩;refine aG 2 (by kernel_rfl) ?_;refine eF hA rfl rfl iu rfl (iV _ _ _ p (by exact (hS.p 1).rd) (hp.sat hS) hlp) ?_;clear hA a;rintro e w ⟨t1,ls1,rfl,hT1,hT⟩;replace hS:Sat _ _ (_::_::_):=hS.ah hT;clear hT;refine⟨_,rfl,?_⟩;intro a hA;refine⟨.inr fun _=>(by exact⟨[_,_,_,_],hS⟩),?_⟩;refine aG 5 (by kernel_rfl) ?_;refine eF hA rfl rfl iu rfl (iV _ _ _ q (by exact (hS.p 2).rd) (hq.sat hS) hlq) ?_;clear hA a;rintro e w ⟨t2,ls2,rfl,hT2,hT⟩;replace hS:Sat _ _ (_::_::_):=hS.ah hT;clear hT;refine⟨_,rfl,?_⟩;intro a hA;refine⟨.inl rfl,?_⟩;refine rX [6,7] hA ?_;clear hA a;intro a hA;refine ai (by kernel_rfl) ?_ _;replace hA:=hA.kp [2,6,7,8] rfl
    first
     | exact⟨t1,t2,ls1,ls2,hA,(((((hS.p 6).p 2).p 2).p 4).p 4).cA [_,_,_,_,_],(by exact hT1),(by exact hT2)⟩
  ·refine tk (vss:=[[_,_]]) hA rfl rfl rfl gr nR rfl rfl rfl (by simp) rfl hS ?_;clear hA a hS;intro A14 w hS;intro a hA;refine⟨.inr fun _=>(by exact⟨[_],hS⟩),?_⟩;refine aG 1 (by kernel_rfl) ?_;refine tk (vss:=[[_,_]]) hA rfl rfl rfl gr nR rfl rfl rfl (by simp) rfl hS ?_;clear hA a hS;intro A11 w hS;intro a hA;refine⟨.inr fun _=>(by exact⟨[_,_],hS⟩),?_⟩;refine aG 2 (by kernel_rfl) ?_;refine eF hA rfl rfl iu rfl (iV _ _ _ p (by exact hS.rd) (hp.sat hS) hlp) ?_;clear hA a;rintro e w ⟨t1,ls1,rfl,hT1,hT⟩;replace hS:Sat _ _ (_::_::_):=hS.ah hT;clear hT;refine⟨_,rfl,?_⟩;intro a hA;refine⟨.inr fun _=>(by exact⟨[_,_,_,_],hS⟩),?_⟩;refine aG 5 (by kernel_rfl) ?_;refine eF hA rfl rfl iu rfl (iV _ _ _ q (by exact (hS.p 3).rd) (hq.sat hS) hlq) ?_;clear hA a;rintro e w ⟨t2,ls2,rfl,hT2,hT⟩;replace hS:Sat _ _ (_::_::_):=hS.ah hT;clear hT;refine⟨_,rfl,?_⟩
   intro a hA;refine⟨.inl rfl,?_⟩;refine rX [6,7] hA ?_;clear hA a;intro a hA;refine ai (by kernel_rfl) ?_ _;replace hA:=hA.kp [2,6,7,8] rfl
   first
    | exact⟨t1,t2,ls1,ls2,hA,(((((hS.p 6).p 2).p 2).p 4).p 4).cA [_,_,_,_,_],(by exact hT1),(by exact hT2)⟩
 ·intro a w hI;clear hS hA;obtain⟨t1,t2,ls1,ls2,hA,hS,hT1,hT2⟩:=hI;refine rC 7 hA ?_;clear hA a;intro a hA;refine wp_loop_ghost (fun (mm:Nat) a w=>∃(r:Nat) (ls1:List (Loc aX)),Ag a 38 [(2,.func (.func 388) #[] #[]),(6,.pointer (some ⟨b6,0,none⟩)),(7,.pointer (some ⟨t1,0,none⟩)),(8,.pointer (some ⟨t2,0,none⟩)),(16,.int .i64 ((r:Nat):Int))]∧Sat W w ([gE 355 t1 ls1,bR (ls1.map (Loc.fR 357)),gE 355 t2 ls2,bR (ls2.map (Loc.fR 357)),aS b6 (.cells #[.slice none 0 0,.slice none 0 0] 63)])∧(r≤16)∧(fb ls1 (kF p.d q.d r))∧mm=16-r) 16 ?_ ?_
  ·replace hA:=hA.kp [2,6,7,8,16] rfl;exact⟨0,ls1,hA,hS,(by omega),(by exact hT1.congr fun k _=>rfl),by omega⟩
  intro m a w hI;clear hS hA;obtain⟨r,ls1,hA,hS,hr,hT1,rfl⟩:=hI;refine rC 2 hA ?_;clear hA a;refine ba 0 0 (aA rfl rfl) ?_ ?_
  ·intro h17;obtain⟨lA,lc,hl1⟩:=hT1.get (show r<16 by omega);obtain⟨mA,mc,hl2⟩:=hT2.get (show r<16 by omega);have hrl:=oE hlp r (by omega);have hrm:=oE hlq r (by omega);intro a hA;rw[zG]at hl1;refine rO 14 hA ?_;clear hA a;intro a hA;refine bB [13,16] hS (by kernel_rfl) ?_;replace hS:=hS.drew;refine rX [0,1,2,3,4] hA ?_;clear hA a;refine bF 5 [] rfl (fun w=>(aI rfl)) ?_;refine bF 6 [] rfl (fun w=>(bI rfl rfl iY fH (by omega) (by omega))) ?_;refine dH 7 [8,9] rfl (by exact⟨[],hS⟩) (fun w hT=>have hS:=hT.sat;(av rfl iA (eS hS hl1))) ?_;refine bF 10 [] rfl (fun w=>(aI rfl)) ?_;refine bF 11 [] rfl (fun w=>(bI rfl rfl iY fH (by omega) (by omega))) ?_;refine dH 12 [] rfl (by exact⟨[],hS⟩) (fun w hT=>have hS:=hT.sat;(av rfl iA (eS (hS.p 2) hl2))) ?_;refine bF 14 [] rfl (fun w=>(aI rfl)) ?_
   intro a hA;refine aG 13 (by kernel_rfl) ?_;refine eV hA rfl rfl CM rfl rfl (pe _ lA lc (bY p.d r) mA mc (bY q.d r) (oI (hS.p 1) hl1) (oI (hS.p 3) hl2) hrl hrm) ?_;clear hA a;rintro e w ⟨A32,c32,rfl,hT⟩;replace hS:=hS.ay hT;clear hT;refine⟨_,rfl,?_⟩;intro a hA;refine⟨.inl rfl,?_⟩;refine P1 15 [] hA rfl (fun w=>(bI (hA.ev rfl) (hA.ev rfl) iY fH (by omega) (by omega))) ?_;clear hA a;intro a hA;refine aG 16 (by kernel_rfl) ?_;refine eT (i:=r) ⟨A32,c32,dK (bf p.d r) (bf q.d r)⟩ hA rfl rfl (by simp) rfl rfl iA fH (hS.p 1) hl1 ?_;clear hS;intro w hS;refine⟨.inl rfl,?_⟩;refine ai (by kernel_rfl) ?_ _;refine rE 3 hA ?_;clear hA a;refine u1 2 (aj rfl rfl (by omega) (by omega)) ?_;intro a hA;replace hA:=hA.kp [2,6,7,8,16] rfl;have hS2:=((hS.p 2).gy (nT hl1)).drop
   have hS3:=pB hl1 (l':=⟨A32,c32,dK (bf p.d r) (bf q.d r)⟩) (((hS2.p 1).p 1).p 2);refine⟨16-(r+1),by omega,r+1,_,hA,(((((hS3.p 4).p 4).p 4).p 3).p 4).cA [_,_,_,_,_],by omega,?_,rfl⟩;exact hT1.set (x4 _ _ _).symm fun k hk hne=>yR hne
  ·intro h17;obtain rfl:r=16:=by omega
   refine uO 12 ?_;refine uF xB rfl (iW _ _ _ t1 ls1 (kF p.d q.d 16) hS hT1 (z6 hlp hlq)) ?_;rintro e w ⟨z,rfl,hz,hT⟩;replace hS:Sat _ _ (_::_::_):=hS.ah hT;clear hT;refine⟨_,rfl,?_⟩;refine uW (vs:=[_,_]) (cs':=[_,_]) rfl rfl aC (hS.p 6) ?_;clear hS;intro w hS;refine uO 3 ?_;intro a hA;refine js hA rfl (cy (cs:=[_,_]) hA rfl bj aC (by exact hS.ab (xs:=[_,_]) rfl)) ?_;exact⟨z,rfl,by rw[hz,wB],rH ((hS.p 2).p 2)⟩
theorem nj (W:World)(p q:PL)(hp:p.ok W)(hq:q.ok W)(hlp:p.d.ad.length≤10000000000)(hlq:q.d.ad.length≤10000000000):Calls Tryz.prog 375 #[.agg #[.slice p.va p.d.vec.length p.vc,.slice p.ca p.d.ad.length p.cc],.agg #[.slice q.va q.d.vec.length q.vc,.slice q.ca q.d.ad.length q.cc]] W fun e w'=>∃z:PL,e=.returned (.agg #[.slice z.va z.d.vec.length z.vc,.slice z.ca z.d.ad.length z.cc])∧z.d=jo p.d q.d∧Sat W w' [ej 3 z.va z.vc z.d.vec,bG 219 z.ca z.cc z.d.ad]:=by
 refine enter Tryz.func375 rfl rfl rfl (.cons (i:=0) rfl (.cons (i:=1) rfl .nil)) ?_;have hS:=Sat.start W;refine uC 2 ?_;refine uB rfl hS ?_;clear hS;intro b2 w hS;refine uB rfl hS ?_;clear hS;intro b3 w hS;refine uN db hS ?_;clear hS;intro b4 w hS;refine uO 4 ?_;refine u1 0 (ag (cs:=[_,_]) rfl bj aC (by exact (hS.p 2).ab (xs:=[_,_]) rfl)) ?_;refine u1 0 (ag (cs:=[_,_]) rfl bj aC (by exact (hS.p 1).ab (xs:=[_,_]) rfl)) ?_;refine uF EZ rfl (wi _ p q (hp.sat hS) (hq.sat hS) hlp hlq) ?_;rintro e w ⟨z,rfl,hz,hT⟩;replace hS:Sat _ _ (_::_::_):=hS.ah hT;clear hT;refine⟨_,rfl,?_⟩;refine uW (vs:=[_,_]) (cs':=[_,_]) rfl rfl aC (hS.p 2) ?_;clear hS;intro w hS;refine uO 3 ?_;intro a hA;refine js hA rfl (cy (cs:=[_,_]) hA rfl bj aC (by exact hS.ab (xs:=[_,_]) rfl)) ?_;exact⟨z,rfl,hz,rH ((hS.p 2).p 2)⟩
theorem zO (W:World)(A:Option Addr)(c:Nat)(xs:List ir)(hR:EK W A c xs)(hl:xs.length≤10000000000):Calls Tryz.prog 276 #[.slice A (xs).length c] W fun e w'=>∃q:PL,e=.returned (.agg #[.slice q.va q.d.vec.length q.vc,.slice q.ca q.d.ad.length q.cc])∧q.d=kL xs∧Sat W w' [ej 3 q.va q.vc q.d.vec,bG 219 q.ca q.cc q.d.ad]:=by
 refine enter Tryz.func276 rfl rfl rfl (.cons (i:=0) rfl .nil) ?_;have hS:=Sat.start W;refine uC 2 ?_;refine uN db hS ?_;clear hS;intro b2 w hS;refine uO 4 ?_;intro a hA;refine o1 0 hA (ax hA rfl AN) ?_;clear hA a;refine uB rfl hS ?_;clear hS;intro b7 w hS;refine uO 7 ?_;refine u1 4 (au rfl xf) ?_;intro a hA;refine wp_loop_ghost (fun (mm:Nat) a w=>∃(i:Nat) (ls:List (Loc aX)),Ag a 37 [(2,.pointer (some ⟨b2,0,none⟩)),(3,.pointer (some ⟨b7,0,none⟩)),(8,.slice A (xs).length c),(9,.int .i64 ((xs.length:Nat):Int)),(10,.int .i64 ((i:Nat):Int))]∧Sat W w ([gE 355 b7 ls,bR (ls.map (Loc.fR 357)),aS b2 (.cells #[.slice none 0 0,.slice none 0 0] 63)])∧(i≤xs.length)∧(fb ls (iy (xs.take i)))∧mm=xs.length-i) xs.length ?_ ?_
 ·replace hA:=hA.kp [2,3,8,9,10] rfl;have hS1:Sat W w [gE 355 b7 (List.replicate 16 sh),bR ((List.replicate 16 sh).map (Loc.fR 357)),aS b2 (.cells #[.slice none 0 0,.slice none 0 0] 63)]:=(oB 357 hS 16).p 1;exact⟨0,_,hA,hS1,(by omega),(by exact oY.congr fun r _=>rfl),by omega⟩
 intro m a w hI;clear hS hA;obtain⟨i,ls,hA,hS,hi,hT,rfl⟩:=hI;refine rC 2 hA ?_;clear hA a;refine ba 0 0 (aA rfl rfl) ?_ ?_
 ·intro h11;refine uO 10 ?_;obtain⟨A_p,rfl⟩:∃q,A=some q:=(hR.sat hS).aw (by omega);obtain⟨d,hx⟩:∃zz_,xs[i]?=some zz_:=⟨_,List.getElem?_eq_getElem (by omega)⟩;refine u1 0 (an rfl rfl xf gO (by omega) (by omega)) ?_;refine u1 0 (ag (cs:=qf d) rfl mh gO (fun j u e=>bS (hR.sat hS) (Bu hx j u e))) ?_;refine uN zq hS ?_;clear hS;intro b5 w hS;refine uW (vs:=[_,_]) (cs':=[_,_]) rfl rfl gO hS ?_;clear hS;intro w hS;refine uO 4 ?_;refine u1 0 (ag (cs:=[_,_]) rfl mh gO (by exact hS.ab (xs:=[_,_]) rfl)) ?_;refine uF CT rfl (pd _ d.rep d.num) ?_;rintro e w ⟨rfl,hT9⟩;replace hS:Sat _ _ _:=hS.ah hT9;clear hT9;generalize h15:dR d.rep d.num=bb;cases bb
  ·refine⟨_,rfl,?_⟩;refine uO 7 ?_;refine u1 2 (aj rfl rfl (by omega) (by omega)) ?_;intro a hA;replace hA:=hA.kp [2,3,8,9,10] rfl;refine⟨xs.length-(i+1),by omega,i+1,ls,hA,hS.drop,by omega,?_,rfl⟩;exact hT.congr fun k hk=>by rw[lk hx,if_neg (by rw[h15];simp),List.append_nil]
  ·have hdot:=h15;unfold dR at hdot;simp only[Bool.and_eq_true,decide_eq_true_eq]at hdot;obtain⟨lA,lc,hl'⟩:=hT.get (show d.rep.toNat<16 by omega);have hlen:=pJ (xs.take i) d.rep.toNat;rw[List.length_take]at hlen;replace hS:Sat W w (dt 357 lA lc (iy (xs.take i) d.rep.toNat)::_):=(hS.p 2).gy (nT hl');refine⟨_,rfl,?_⟩;refine uO 3 ?_;intro a hA;refine jP [18] (kx W [bR ((ls.map (Loc.fR 357)).eraseIdx d.rep.toNat),aS b5 (.cells #[.int .i64 d.rep,.int .i64 d.num] 214),gE 355 b7 ls,aS b2 (.cells #[.slice none 0 0,.slice none 0 0] 63)]) (by kernel_rfl) ?_;replace hS:=hS.drew;refine rX [0] hA ?_;clear hA a
   refine bF 1 [] rfl (fun w=>(aa rfl cD)) ?_;refine dH 2 [3] rfl (by exact⟨[_],hS⟩) (fun w hT=>have hS:=hT.sat;(ld rfl bq)) ?_;refine bF 4 [] rfl (fun w=>(aa rfl cD)) ?_;refine dH 5 [] rfl (by exact⟨[_],hS⟩) (fun w hT=>have hS:=hT.sat;(ld rfl bq)) ?_;refine bF 6 [] rfl (fun w=>(aI rfl)) ?_;refine bF 7 [] rfl (fun w=>(bI rfl rfl iY fH (by omega) (by omega))) ?_;refine dH 8 [] rfl (by exact⟨[_],hS⟩) (fun w hT=>have hS:=hT.sat;(av rfl iA (eS (hS.p 2) hl'))) ?_;refine bF 9 [] rfl (fun w=>(aa rfl cT)) ?_;refine dH 10 [] rfl (by exact⟨[_],hS⟩) (fun w hT=>have hS:=hT.sat;(ld rfl bq)) ?_;refine bF 11 [] rfl (fun w=>(aa rfl cT)) ?_;refine dH 12 [] rfl (by exact⟨[_],hS⟩) (fun w hT=>have hS:=hT.sat;(ld rfl bq)) ?_;intro a hA
   refine P1 13 [] hA rfl (fun w=>(ax hA rfl gZ)) ?_;clear hA a;refine bF 16 [] rfl (fun w=>(aI rfl)) ?_;intro a hA;refine aG 14 (by kernel_rfl) ?_;refine tk (vss:=[[_,_]]) hA rfl rfl rfl bo fv rfl rfl rfl (by simp) rfl hS ?_;clear hA a hS;intro A30 w hS;intro a hA;refine⟨.inr fun _=>(by exact⟨[_,_],hS⟩),?_⟩;refine aG 15 (by kernel_rfl) ?_;refine eA hA rfl rfl rfl rfl bo fv rfl (hS.p 1) (hS.rd.src bo (by simp[Value.oneCell'])) (by omega) (by omega) ?_;clear hA a hS;intro A31 c31 w hc31 hS;intro a hA;refine⟨.inr fun _=>(by exact⟨[_,_],hS⟩),?_⟩;refine P1 17 [] hA rfl (fun w=>(bI (hA.ev rfl) (hA.ev rfl) iY fH (by omega) (by omega))) ?_;clear hA a;intro a hA;refine aG 18 (by kernel_rfl) ?_
   refine eT (i:=d.rep.toNat) ⟨A31,c31,iy (xs.take i) d.rep.toNat++[(d.num,d.num)]⟩ hA rfl rfl (by simp) rfl (by simp[Loc.v]) iA fH (hS.p 4) hl' ?_;clear hS;intro w hS;refine⟨.inl rfl,?_⟩;refine ai (by kernel_rfl) ?_ _;refine rE 3 hA ?_;clear hA a;refine u1 2 (aj rfl rfl (by omega) (by omega)) ?_;intro a hA;replace hA:=hA.kp [2,3,8,9,10] rfl;have hS2:=pB hl' (l':=⟨A31,c31,iy (xs.take i) d.rep.toNat++[(d.num,d.num)]⟩) (jK ((hS.p 3).p 2) (by simp) (by simp[fh]));refine⟨xs.length-(i+1),by omega,i+1,_,hA,(((hS2.p 4).p 1).p 2).cA [_,_,_],by omega,?_,rfl⟩;refine hT.set ?_ fun k hk hne=>?_
   ·rw[lk hx,if_pos ⟨h15,by omega⟩]
   ·rw[lk hx,if_neg (fun hh=>hne (by have:=hh.2;omega)),List.append_nil]
 ·intro h11;obtain rfl:i=xs.length:=by omega
  intro a hA;rw[List.take_length]at hT;refine rO 12 hA ?_;clear hA a;refine uF xB rfl (iW _ _ _ b7 ls (iy xs) hS hT (fun r _=>Nat.le_trans (pJ xs r) (by omega))) ?_;rintro e w ⟨q,rfl,hq,hT9⟩;replace hS:Sat _ _ (_::_::_):=hS.ah hT9;clear hT9;refine⟨_,rfl,?_⟩;refine uW (vs:=[_,_]) (cs':=[_,_]) rfl rfl aC (hS.p 4) ?_;clear hS;intro w hS;refine uO 3 ?_;intro a hA;refine js hA rfl (cy (cs:=[_,_]) hA rfl bj aC (by exact hS.ab (xs:=[_,_]) rfl)) ?_;exact⟨q,rfl,by rw[hq,yQ],rH ((hS.p 2).p 2)⟩
end Go.Proofs.YtkjabaihpkbfhaaGreat.Wk
namespace Go.Proofs.YtkjabaihpkbfhaaGreat.Wk
open Go Go.RowKit Go.Proofs.YtkjabaihpkbfhaaGreat Go.Proofs.YtkjabaihpkbfhaaGreat.K
theorem Di {W:World}{A:Option Addr}{n c sz:Nat}{cs:List Value}(h:Rd W sz (.slice A n c) n cs):n≤c:=by
 obtain⟨_,_,h1,h2⟩:=h.form
 injection h1 with _ _ h3
 omega
theorem qj {f:Nat→List aX}{B:Nat}(hb:∀r,r<16→(f r).length≤B):∀r,r≤16→((List.range r).flatMap (aN f)).length≤r * B
 | 0,_=>by simp
 | r + 1, h => by
   have h1:=qj hb r (by omega);have h2:=hb r (by omega);have h4:=k9 (f r);rw[lQ,pC,List.length_append,List.length_map,Nat.add_mul];omega
theorem wW {l:List Int}(h:∀x∈l,0≤x):0≤l.sum∧(l.sum=0→∀x∈l,x=0):=by
 induction l with
 | nil=>simp
 | cons a l ih =>
   obtain⟨h1,h2⟩:=ih fun x hx=>h x (by simp[hx])
   have ha:=h a (by simp);rw[List.sum_cons];refine⟨by omega,fun h0 x hx=>?_⟩;rcases List.mem_cons.1 hx with rfl | hx
   ·
    omega
   ·
    exact h2 (by omega) x hx
theorem sr (p:aB):dN p=true↔∀r,r<16→bf p r=[]:=by
 unfold dN AK;rw[decide_eq_true_eq]
 have hn:∀x∈(List.range 16).map fun r=>de (bf p r),0≤x:=fun x hx=>by
  obtain⟨r,_,rfl⟩:=List.mem_map.1 hx;exact (fK (bH p r)).1
 constructor
 ·
  intro h r hr;exact (fK (bH p r)).2.1 ((wW hn).2 h _ (List.mem_map.2 ⟨r,List.mem_range.2 hr,rfl⟩))
 ·
  intro h;have:(List.range 16).map (fun r=>de (bf p r))=(List.range 16).map fun _=>0:=List.map_congr_left fun r hr=>by rw[h r (List.mem_range.1 hr)];rfl
  rw[this];decide
end Go.Proofs.YtkjabaihpkbfhaaGreat.Wk
namespace Go.Proofs.YtkjabaihpkbfhaaGreat.Wk
open Go Go.RowKit Go.Proofs.YtkjabaihpkbfhaaGreat Go.Proofs.YtkjabaihpkbfhaaGreat.K Go.Proofs.YtkjabaihpkbfhaaGreat.T
theorem rj (W:World)(p q:PL)(hp:p.ok W)(hq:q.ok W)(hl1:p.d.vec.length≤1000000000000)(hl2:p.d.ad.length≤1000000000000)(hl3:q.d.vec.length≤1000000000000)(hl4:q.d.ad.length≤1000000000000):Calls Tryz.prog 106 #[.agg #[.slice p.va p.d.vec.length p.vc,.slice p.ca p.d.ad.length p.cc],.agg #[.slice q.va q.d.vec.length q.vc,.slice q.ca q.d.ad.length q.cc]] W fun e w'=>e=.returned (.bool (decide (p.d=q.d)))∧Sat W w' []:=by
 refine enter Tryz.func106 rfl rfl rfl (.cons (i:=0) rfl (.cons (i:=1) rfl .nil)) ?_;have hS:=Sat.start W;obtain⟨va,vc,ca,cc,d⟩:=p;have hpv:rM W va vc d.vec:=hp.vec;have hpc:gD W ca cc d.ad:=hp.ad;obtain⟨ua,uc,ea,ec,d2⟩:=q;have hqv:rM W ua uc d2.vec:=hq.vec;have hqc:gD W ea ec d2.ad:=hq.ad;intro a hA;dsimp only at hl1 hl2 hl3 hl4 hA ⊢;refine rC 2 hA ?_;clear hA a;refine uB rfl hS ?_;clear hS;intro b2 w hS;refine uB rfl hS ?_;clear hS;intro b3 w hS;refine uO 6 ?_;refine u1 0 (aa rfl cQ) ?_;refine u1 0 (ld rfl gS) ?_;refine u1 0 (au rfl bu) ?_;refine u1 0 (aa rfl cQ) ?_;refine u1 0 (ld rfl gS) ?_;refine u1 0 (au rfl bu) ?_;refine ba 0 0 (aD rfl rfl) ?_ ?_
 ·intro h13;refine uO 19 ?_;refine bt ?_;refine⟨?_,hS.nil⟩;rw[decide_eq_false];intro h;rw[h]at h13;omega
 ·intro h13;refine uO 1 ?_;refine u1 0 (aa rfl dg) ?_;refine u1 0 (ld rfl iM) ?_;refine u1 0 (au rfl dZ) ?_;refine u1 0 (aa rfl dg) ?_;refine u1 0 (ld rfl iM) ?_;refine u1 0 (au rfl dZ) ?_;refine ba 0 0 (aD rfl rfl) ?_ ?_
  ·intro h21;refine uO 11 ?_;refine bt ?_;refine⟨?_,hS.nil⟩;rw[decide_eq_false];intro h;rw[h]at h21;omega
  ·intro h21;refine uO 13 ?_;intro a hA;refine wp_loop_ghost (fun (mm:Nat) a w=>∃(k:Nat),Ag a 59 [(2,.pointer (some ⟨b2,0,none⟩)),(3,.pointer (some ⟨b3,0,none⟩)),(5,.int .i64 ((k:Nat):Int))]∧Sat W w ([aS b3 (.cells #[.slice ua d2.vec.length uc,.slice ea d2.ad.length ec] 63),aS b2 (.cells #[.slice va d.vec.length vc,.slice ca d.ad.length cc] 63)])∧(k≤d.vec.length)∧(d.vec.take k=d2.vec.take k)∧mm=d.vec.length-k) d.vec.length ?_ ?_
   ·replace hA:=hA.kp [2,3,5] rfl;exact⟨0,hA,hS,(by omega),(by rfl),by omega⟩
   intro m a w hI;clear hS hA;obtain⟨k,hA,hS,hk,he,rfl⟩:=hI;refine rC 4 hA ?_;clear hA a;refine u1 0 (aa rfl cQ) ?_;refine u1 0 (ld rfl gS) ?_;refine u1 0 (au rfl bu) ?_;refine ba 0 0 (aA rfl rfl) ?_ ?_
   ·intro h27;refine uO 8 ?_;intro a hA;refine cZ (fun w'=>Sat _ w' _) (by kernel_rfl) (by kernel_rfl) hS.drew ?_;refine Q1 0 hA (fun w hS=>(aa (hA.ev rfl) cQ)) ?_;clear hA a;refine bC 1 (fun w hS=>(ld rfl gS)) ?_;obtain⟨va_p,rfl⟩:∃q,va=some q:=(hpv.sat hS).aw (by omega);obtain⟨x,hx⟩:∃zz_,d.vec[k]?=some zz_:=⟨_,List.getElem?_eq_getElem (by omega)⟩;refine bC 0 (fun w hS=>(an rfl rfl bu kz (by omega) (by omega))) ?_;refine bC 0 (fun w hS=>(av rfl bq (ml (hpv.sat hS) (ey hx)))) ?_;refine bC 0 (fun w hS=>(aa rfl cQ)) ?_;refine bC 1 (fun w hS=>(ld rfl gS)) ?_;obtain⟨ua_p,rfl⟩:∃q,ua=some q:=(hqv.sat hS).aw (by omega);obtain⟨y,hy⟩:∃zz_,d2.vec[k]?=some zz_:=⟨_,List.getElem?_eq_getElem (by omega)⟩
    refine bC 0 (fun w hS=>(an rfl rfl bu kz (by omega) (by omega))) ?_;refine bC 0 (fun w hS=>(av rfl bq (ml (hqv.sat hS) (ey hy)))) ?_;intro a hA;refine K.sq hA rfl rfl rfl (fun w hS=>(aD (hA.ev rfl) (hA.ev rfl))) ?_ ?_
    ·clear hA a;intro h40;intro a hA;refine wpQuiet_nil ?_;clear hS;intro w hS;refine rE 13 hA ?_;clear hA a;refine bt ?_;refine⟨?_,hS.nil⟩;rw[decide_eq_false];intro h;rw[h,hy]at hx;cases hx;omega
    ·clear hA a;intro h40;intro a hA;refine wpQuiet_nil ?_;clear hS;intro w hS;refine rE 7 hA ?_;clear hA a;refine u1 2 (aj rfl rfl (by omega) (by omega)) ?_;intro a hA;replace hA:=hA.kp [2,3,5] rfl;refine⟨d.vec.length-(k+1),by omega,k+1,hA,hS,by omega,?_,rfl⟩;rw[aP hx,aP hy,he,show x=y from by omega]
   ·intro h27;refine uO 8 ?_;intro a hA;replace hA:=hA.kp [2,3] rfl;refine rC 7 hA ?_;clear hA a;intro a hA;refine wp_loop_ghost (fun (mm:Nat) a w=>∃(m:Nat),Ag a 59 [(2,.pointer (some ⟨b2,0,none⟩)),(3,.pointer (some ⟨b3,0,none⟩)),(6,.int .i64 ((m:Nat):Int))]∧Sat W w ([aS b3 (.cells #[.slice ua d2.vec.length uc,.slice ea d2.ad.length ec] 63),aS b2 (.cells #[.slice va d.vec.length vc,.slice ca d.ad.length cc] 63)])∧(m≤d.ad.length)∧(d.ad.take m=d2.ad.take m)∧mm=d.ad.length-m) d.ad.length ?_ ?_
    ·replace hA:=hA.kp [2,3,6] rfl;exact⟨0,hA,hS,(by omega),(by rfl),by omega⟩
    intro m a w hI;clear hS hA;obtain⟨m,hA,hS,hm,hf,rfl⟩:=hI;refine rC 4 hA ?_;clear hA a;refine u1 0 (aa rfl dg) ?_;refine u1 0 (ld rfl iM) ?_;refine u1 0 (au rfl dZ) ?_;refine ba 0 0 (aA rfl rfl) ?_ ?_
    ·intro h45;refine uO 8 ?_;intro a hA;refine cZ (fun w'=>Sat _ w' _) (by kernel_rfl) (by kernel_rfl) hS.drew ?_;refine Q1 0 hA (fun w hS=>(aa (hA.ev rfl) dg)) ?_;clear hA a;refine bC 1 (fun w hS=>(ld rfl iM)) ?_;obtain⟨ca_p,rfl⟩:∃q,ca=some q:=(hpc.sat hS).aw (by omega);obtain⟨s,hs⟩:∃zz_,d.ad[m]?=some zz_:=⟨_,List.getElem?_eq_getElem (by omega)⟩;refine bC 0 (fun w hS=>(an rfl rfl dZ dE (by omega) (by omega))) ?_;refine bC 0 (fun w hS=>(ag (cs:=iJ s) rfl kA dE (fun j u e=>bS (hpc.sat hS) (et hs j u e)))) ?_;refine bC 0 (fun w hS=>(aa rfl dg)) ?_;refine bC 1 (fun w hS=>(ld rfl iM)) ?_;obtain⟨ea_p,rfl⟩:∃q,ea=some q:=(hqc.sat hS).aw (by omega);obtain⟨t,ht⟩:∃zz_,d2.ad[m]?=some zz_:=⟨_,List.getElem?_eq_getElem (by omega)⟩
     refine bC 0 (fun w hS=>(an rfl rfl dZ dE (by omega) (by omega))) ?_;refine bC 0 (fun w hS=>(ag (cs:=iJ t) rfl kA dE (fun j u e=>bS (hqc.sat hS) (et ht j u e)))) ?_;intro a hA;refine K.sq hA rfl rfl rfl (fun w hS=>(tU (hA.ev rfl) (hA.ev rfl) CJ CP)) ?_ ?_
     ·clear hA a;intro h58;intro a hA;refine wpQuiet_nil ?_;clear hS;intro w hS;refine rE 13 hA ?_;clear hA a;refine bt ?_;refine⟨?_,hS.nil⟩;rw[decide_eq_false];intro h;rw[h,ht]at hs;cases hs;simp at h58
     ·clear hA a;intro h58;intro a hA;refine wpQuiet_nil ?_;clear hS;intro w hS;refine rE 7 hA ?_;clear hA a;refine u1 2 (aj rfl rfl (by omega) (by omega)) ?_;intro a hA;replace hA:=hA.kp [2,3,6] rfl;refine⟨d.ad.length-(m+1),by omega,m+1,hA,hS,by omega,?_,rfl⟩;rw[aP hs,aP ht,hf,show s=t from by cases s;cases t;simpa using h58]
    ·intro h45;refine uO 14 ?_;refine bt ?_;rw[List.take_of_length_le (by omega),List.take_of_length_le (by omega)]at he hf;refine⟨?_,hS.nil⟩;rw[decide_eq_true];exact rh he hf
end Go.Proofs.YtkjabaihpkbfhaaGreat.Wk
namespace Go.Proofs.YtkjabaihpkbfhaaGreat.Wk
open Go Go.RowKit Go.Proofs.YtkjabaihpkbfhaaGreat Go.Proofs.YtkjabaihpkbfhaaGreat.K
theorem r5 (a b:aB):(jo a b).ad.length≤16 * (a.ad.length+b.ad.length+3):=
 qj (fun r _=>ng a b r) 16 (Nat.le_refl _)
end Go.Proofs.YtkjabaihpkbfhaaGreat.Wk
namespace Go.Proofs.YtkjabaihpkbfhaaGreat.K
open Go Go.RowKit
def Bk (a b:List UInt8):Bool:=Op.bytesLess a b
theorem sQ (a:List UInt8):Bk a []=false:=by cases a<;>rfl
theorem uV (b:UInt8)(y:List UInt8):Bk [] (b::y)=true:=rfl
theorem nM (a b:UInt8)(x y:List UInt8):Bk (a::x) (b::y)=(decide (a<b) || (a == b && Bk x y)):=rfl
theorem BY:∀x y:List UInt8,(!(Bk x y || x == y))=Bk y x
 | [],[]=>rfl
 | [],b::y=>by rw[sQ];rfl
 | a::x,[]=>by rw[sQ];rfl
 | a :: x, b :: y => by
   rw[nM,nM,←BY x y];rcases Nat.lt_trichotomy a.toNat b.toNat with h | h | h
   ·
    have h1:a<b:=h;have h2:¬b<a:=fun h2=>by have h3:b.toNat<a.toNat:=h2;omega
    have h3:¬b=a:=fun e=>by subst e;omega
    simp[h1,h2,h3]
   ·
    have e:a=b:=UInt8.toNat_inj.1 h;subst e;simp
   ·
    have h1:b<a:=h;have h2:¬a<b:=fun h2=>by have h3:a.toNat<b.toNat:=h2;omega
    have h3:¬a=b:=fun e=>by subst e;omega
    simp[h1,h2,h3]
def F0 (a b:ByteArray):Int:=if Bk a.data.toList b.data.toList then -1 else if Bk b.data.toList a.data.toList then 1 else 0
theorem xO:∀x y:List UInt8,Lib.compareBytes x y=if Bk x y then -1 else if Bk y x then 1 else 0
 | [],[]=>rfl
 | [],b::y=>by rw[uV];rfl
 | a::x,[]=>by rw[sQ,uV];rfl
 | a :: x, b :: y => by
   rw[Lib.compareBytes,xO x y,nM,nM]
   by_cases h:a<b
   ·
    simp[h]
   ·
    by_cases h':b<a
    ·
     have e:¬a=b:=fun e=>h (by subst e;exact h')
     simp[h,h',e]
    ·
     have e:a=b:=UInt8.toNat_inj.1 (by
      have h1:¬a.toNat<b.toNat:=h;have h2:¬b.toNat<a.toNat:=h';omega)
     subst e;simp[h]
section
variable {P:Program} {w:World} {ρ:Operand→Value} {t ty yt:TypeId} {x y:Operand} {ps:String} {af:Array Edge} {dd:Option Tmp} {g:Option (Nat×Bool)}
theorem qb (s:ByteArray):s.size=s.data.toList.length:=by cases s;rfl
theorem BM {s:ByteArray}{j:Nat}{c:UInt8}(hc:s.data.toList[j]?=some c):∃h:j<s.size,s[j]'h=c:=by
 obtain⟨h,e⟩:=List.getElem?_eq_some_iff.1 hc;have h':j<s.size:=by rw[qb];exact h
 refine⟨h',?_⟩;rw[←e];cases s;rfl
theorem zX {s:ByteArray}{i:Int}{j:Nat}{k:IntKind}{c:UInt8}(hx:ρ x=.string s)(hy:ρ y=.int k i)(ht:P.underlying t=some .string)(hi:i=(j:Int))(hc:s.data.toList[j]?=some c) :
 (execOp ρ ⟨dd,.index t x y,ty,ps,af,g⟩).run P w=.ok (.value (.int .u8 (c.toNat:Int))) w:=by
 subst hi;obtain⟨h,e⟩:=BM hc;have h2:(0:Int)≤(j:Int)∧(j:Int)<(s.size:Int):=⟨by omega,by omega⟩
 have h3:(Instr.index t (.string s) (.int k (j:Int))).run P w=.ok (.int .u8 (c.toNat:Int)) w:=by
  rw[run_index_string _ _ _ _ _ ht,dif_pos h2];simp only[Int.toNat_natCast];rw[e]
 simp[execOp,hx,hy,h3,go_sem]
end
theorem pj {w:World}{sz n c k o j:Nat}{p:Addr}{cs:List Value}{u:Value}(hR:Rd w sz (.slice (some p) n c) n cs)(h:cs[k+(o+j)]?=some u):w.cell? (((p.add k).add o).add j)=some u:=by
 rw[add_add,add_add];exact hR.cell h
end Go.Proofs.YtkjabaihpkbfhaaGreat.K
namespace Go.Proofs.YtkjabaihpkbfhaaGreat.Wk
open Go Go.RowKit Go.Proofs.YtkjabaihpkbfhaaGreat Go.Proofs.YtkjabaihpkbfhaaGreat.K
theorem yj {s:ByteArray}(h:s.data.toList.length=0):s={ data:=#[] }:=by
 obtain⟨⟨l⟩⟩:=s;have:l=[]:=List.eq_nil_of_length_eq_zero h;subst this;rfl
theorem Bw (x:aM)(j:Nat)(u:Value)(e:([Value.int .i64 x.rep,Value.int .i64 x.num]:List Value)[j]?=some u):(mH x)[0+j]?=some u:=by
 have hj:=(List.getElem?_eq_some_iff.1 e).1;rw[Nat.zero_add,←e]
 match j,hj with
 | 0,_=>rfl
 | 1,_=>rfl
theorem p4 (W:World)(c:UInt8)  : Calls Tryz.prog 246 #[.int .u8 (c.toNat:Int)] W fun e w'=>e=.returned (.bool (AX c))∧Sat W w' []:=by
 refine enter Tryz.func246 rfl rfl rfl (.cons (i:=0) rfl .nil) ?_;have hS:=Sat.start W;refine uC 8 ?_;refine ba 0 0 (dU rfl rfl) ?_ ?_
 ·intro h4;refine uO 2 ?_;refine u1 5 (dU rfl rfl) ?_;refine bt ?_;refine⟨?_,hS⟩;unfold AX
  congr 2
  rw[Bool.eq_iff_iff];simp only[Bool.and_eq_true,Bool.or_eq_true,decide_eq_true_eq,Bool.false_eq_true,false_iff,true_iff];omega
 ·intro h4;refine uO 8 ?_;refine bt ?_;refine⟨?_,hS⟩;unfold AX
  congr 2
  rw[Bool.eq_iff_iff];simp only[Bool.and_eq_true,Bool.or_eq_true,decide_eq_true_eq,Bool.false_eq_true,false_iff,true_iff];omega
theorem rW (W:World)(c:UInt8)  : Calls Tryz.prog 247 #[.int .u8 (c.toNat:Int)] W fun e w'=>e=.returned (.bool (Bb c))∧Sat W w' []:=by
 refine enter Tryz.func247 rfl rfl rfl (.cons (i:=0) rfl .nil) ?_;have hS:=Sat.start W;refine uC 8 ?_;refine ba 0 0 (dU rfl rfl) ?_ ?_
 ·intro h4;refine uO 2 ?_;refine u1 5 (dU rfl rfl) ?_;refine bt ?_;refine⟨?_,hS⟩;unfold Bb
  congr 2
  rw[Bool.eq_iff_iff];simp only[Bool.and_eq_true,Bool.or_eq_true,decide_eq_true_eq,Bool.false_eq_true,false_iff,true_iff];omega
 ·intro h4;refine uO 8 ?_;refine bt ?_;refine⟨?_,hS⟩;unfold Bb
  congr 2
  rw[Bool.eq_iff_iff];simp only[Bool.and_eq_true,Bool.or_eq_true,decide_eq_true_eq,Bool.false_eq_true,false_iff,true_iff];omega
theorem nr (W:World)(c:UInt8)  : Calls Tryz.prog 248 #[.int .u8 (c.toNat:Int)] W fun e w'=>e=.returned (.bool (wy c))∧Sat W w' []:=by
 refine enter Tryz.func248 rfl rfl rfl (.cons (i:=0) rfl .nil) ?_;have hS:=Sat.start W;refine uC 8 ?_;refine ba 0 0 (bN rfl rfl) ?_ ?_
 ·intro h4;refine uO 8 ?_;refine bt ?_;refine⟨?_,hS⟩;unfold wy
  congr 2
  rw[Bool.eq_iff_iff];simp only[Bool.and_eq_true,Bool.or_eq_true,decide_eq_true_eq,Bool.false_eq_true,false_iff,true_iff];omega
 ·intro h4;refine uO 2 ?_;refine u1 5 (bN rfl rfl) ?_;refine bt ?_;refine⟨?_,hS⟩;unfold wy
  congr 2
  rw[Bool.eq_iff_iff];simp only[Bool.and_eq_true,Bool.or_eq_true,decide_eq_true_eq,Bool.false_eq_true,false_iff,true_iff];omega
end Go.Proofs.YtkjabaihpkbfhaaGreat.Wk
namespace Go.Proofs.YtkjabaihpkbfhaaGreat.Wk
open Go Go.RowKit Go.Proofs.YtkjabaihpkbfhaaGreat Go.Proofs.YtkjabaihpkbfhaaGreat.K Go.Proofs.YtkjabaihpkbfhaaGreat.T
theorem qi (W:World)(s:ByteArray)  : Calls Tryz.prog 196 #[.string s] W fun e w'=>e=.returned (.tuple #[.int .i64 (((rm s.data.toList).1:Nat):Int),.int .i64 (rm s.data.toList).2])∧Sat W w' []:=by
 refine enter Tryz.func196 rfl rfl rfl (.cons (i:=0) rfl .nil) ?_;have hS:=Sat.start W;have hsz:=qb s;refine uC 10 ?_;refine ba 0 0 (kI rfl rfl) ?_ ?_
 ·intro h7;refine uO 11 ?_;refine gT ?_;obtain rfl:=h7;exact⟨rfl,hS⟩
 ·intro h7;have h0:s.data.toList.length≠0:=fun h0=>h7 (yj h0)
  refine uO 9 ?_;refine u1 0 (nw rfl Bj) ?_;refine ba 0 0 (dW rfl rfl) ?_ ?_
  ·intro h10;refine uO 11 ?_;refine gT ?_;refine⟨?_,hS⟩;unfold rm;rw[if_neg (by omega),if_pos (by omega)];rfl
  ·intro h10;intro a hA;rw[hsz]at hA h10;refine rO 9 hA ?_;clear hA a;refine u1 4 (nw rfl Bj) ?_;intro a hA;refine wp_loop_ghost (fun (mm:Nat) a w=>∃(i:Nat),Ag a 48 [(0,.string s),(12,.int .i64 ((s.data.toList.length:Nat):Int)),(13,.int .i64 ((i:Nat):Int))]∧Sat W w ([])∧(i≤s.data.toList.length)∧(∀j,j<i→tn s.data.toList j=true)∧mm=s.data.toList.length-i) s.data.toList.length ?_ ?_
   ·replace hA:=hA.kp [0,12,13] rfl;exact⟨0,hA,hS,(by omega),(by intro j hj;omega),by omega⟩
   intro m a w hI;clear hS hA;obtain⟨i,hA,hS,hi,he,rfl⟩:=hI;refine rC 2 hA ?_;clear hA a;refine ba 0 0 (aA rfl rfl) ?_ ?_
   ·intro h14;refine uO 18 ?_;obtain⟨c,hc⟩:∃zz_,s.data.toList[i]?=some zz_:=⟨_,List.getElem?_eq_getElem (by omega)⟩;refine u1 7 (zX rfl rfl Bj (by omega) hc) ?_;refine uF D7 rfl (p4 _ c) ?_;rintro e w ⟨rfl,hT⟩;replace hS:Sat _ _ _:=hS.ah hT;clear hT;generalize h20:(AX c)=bb;cases bb
    ·refine⟨_,rfl,?_⟩;refine uO 2 ?_;intro a hA;refine eZ hA (ar hA rfl rfl rfl) rfl FP rfl (rW _ c) ?_;clear hA a;rintro e w ⟨rfl,hT⟩;replace hS:Sat _ _ _:=hS.ah hT;clear hT;generalize h23:(Bb c)=bb;cases bb
     ·refine⟨_,rfl,?_⟩;refine uO 9 ?_;refine uF CG rfl (nr _ c) ?_;rintro e w ⟨rfl,hT⟩;replace hS:Sat _ _ _:=hS.ah hT;clear hT;generalize h26:(wy c)=bb;cases bb
      ·refine⟨_,rfl,?_⟩;refine u1 34 (aR rfl) ?_;refine gT ?_
       have hst:tn s.data.toList i=false:=by
        unfold tn;rw[hc];simp[h20,h23,h26]
       refine⟨?_,hS⟩;rw[nF (by omega) (by omega) (by omega) hst he]
      ·refine⟨_,rfl,?_⟩;refine u1 2 (aR rfl) ?_;refine ba 0 0 (bN rfl rfl) ?_ ?_
       ·intro h30;refine uO 31 ?_;refine gT ?_
        have hst:tn s.data.toList i=false:=by
         unfold tn;rw[hc];have e:i=0:=by omega
         simp[h20,h23,e]
        refine⟨?_,hS⟩;rw[nF (by omega) (by omega) (by omega) hst he]
       ·intro h30;refine uO 4 ?_;refine u1 0 (nw rfl Bj) ?_;refine u1 0 (bJ rfl rfl (by omega) (by omega)) ?_;refine ba 0 0 (bN rfl rfl) ?_ ?_
        ·intro h37;refine uO 24 ?_;refine gT ?_
         have hst:tn s.data.toList i=false:=by
          unfold tn;rw[hc];have e:i+1=s.size:=by omega
          simp[h20,h23,e]
         refine⟨?_,hS⟩;rw[nF (by omega) (by omega) (by omega) hst he]
        ·intro h37;refine uO 4 ?_;refine u1 0 (bJ rfl rfl (by omega) (by omega)) ?_;obtain⟨p,hp⟩:∃zz_,s.data.toList[i-1]?=some zz_:=⟨_,List.getElem?_eq_getElem (by omega)⟩;refine u1 0 (zX rfl rfl Bj (by omega) hp) ?_;intro a hA;refine eZ hA (ar hA rfl rfl rfl) rfl CG rfl (nr _ p) ?_;clear hA a;rintro e w ⟨rfl,hT⟩;replace hS:Sat _ _ _:=hS.ah hT;clear hT;generalize h44:(wy p)=bb;cases bb
         ·refine⟨_,rfl,?_⟩;refine uO 8 ?_;refine u1 2 (aj rfl rfl (by omega) (by omega)) ?_;intro a hA;replace hA:=hA.kp [0,12,13] rfl
          have hst:tn s.data.toList i=true:=by
           unfold tn;rw[hc];have e1:i≠0:=by omega
           have e2:¬i+1=s.size:=by omega
           simp[h20,h23,h26,e1,e2,hp,h44]
          exact⟨s.data.toList.length-(i+1),by omega,i+1,hA,hS,by omega,fun j hj=>(by rcases Nat.lt_or_ge j i with h | h;exact he j h;obtain rfl:j=i:=(by omega);exact hst),rfl⟩
         ·refine⟨_,rfl,?_⟩;refine uO 17 ?_;refine gT ?_
          have hst:tn s.data.toList i=false:=by
           unfold tn;rw[hc];have e1:i≠0:=by omega
           have e2:¬i+1=s.size:=by omega
           simp[h20,h23,h26,e1,e2,hp,h44]
          refine⟨?_,hS⟩;rw[nF (by omega) (by omega) (by omega) hst he]
     ·refine⟨_,rfl,?_⟩;refine uO 9 ?_;refine u1 2 (aj rfl rfl (by omega) (by omega)) ?_;intro a hA;replace hA:=hA.kp [0,12,13] rfl
      have hst:tn s.data.toList i=true:=by
       unfold tn;rw[hc];simp[h20,h23]
      exact⟨s.data.toList.length-(i+1),by omega,i+1,hA,hS,by omega,fun j hj=>(by rcases Nat.lt_or_ge j i with h | h;exact he j h;obtain rfl:j=i:=(by omega);exact hst),rfl⟩
    ·refine⟨_,rfl,?_⟩;refine uO 12 ?_;refine u1 2 (aj rfl rfl (by omega) (by omega)) ?_;intro a hA;replace hA:=hA.kp [0,12,13] rfl
     have hst:tn s.data.toList i=true:=by
      unfold tn;rw[hc];simp[h20]
     exact⟨s.data.toList.length-(i+1),by omega,i+1,hA,hS,by omega,fun j hj=>(by rcases Nat.lt_or_ge j i with h | h;exact he j h;obtain rfl:j=i:=(by omega);exact hst),rfl⟩
   ·intro h14;refine uO 9 ?_;intro a hA;replace hA:=hA.kp [] rfl;refine rC 7 hA ?_;clear hA a;refine gT ?_;obtain rfl:i=s.data.toList.length:=by omega
    refine⟨?_,hS⟩;rw[BA (by omega) (by omega) he];rfl
theorem lZ (W:World)(s:ByteArray)  : Calls Tryz.prog 163 #[.string s] W fun e w'=>e=.returned (.bool (nc s))∧Sat W w' []:=by
 refine enter Tryz.func163 rfl rfl rfl (.cons (i:=0) rfl .nil) ?_;have hS:=Sat.start W;refine uC 8 ?_;refine uF Ev rfl (qi _ s) ?_;rintro e w ⟨rfl,hT⟩;replace hS:Sat _ _ _:=hS.ah hT;clear hT;refine⟨_,rfl,?_⟩;refine uO 1 ?_;refine u1 0 (ak rfl rfl) ?_;refine u1 7 (ak rfl rfl) ?_;refine u1 4 (bN rfl rfl) ?_;refine bt ?_;exact⟨rfl,hS⟩
theorem tG (W:World)(a b:aM)  : Calls Tryz.prog 156 #[.agg #[.int .i64 a.rep,.int .i64 a.num],.agg #[.int .i64 b.rep,.int .i64 b.num]] W fun e w'=>e=.returned (.bool (vQ a b))∧Sat W w' []:=by
 refine enter Tryz.func156 rfl rfl rfl (.cons (i:=0) rfl (.cons (i:=1) rfl .nil)) ?_;have hS:=Sat.start W;refine uC 2 ?_;refine uB rfl hS ?_;clear hS;intro b2 w hS;refine uB rfl hS ?_;clear hS;intro b3 w hS;refine uO 5 ?_;refine u1 0 (aa rfl cD) ?_;refine u1 0 (ld rfl bq) ?_;refine u1 0 (aa rfl cD) ?_;refine u1 0 (ld rfl bq) ?_;refine ba 0 0 (aA rfl rfl) ?_ ?_
 ·intro h9;refine uO 18 ?_;refine bt ?_;refine⟨?_,hS.nil⟩;unfold vQ
  congr 2
  rw[Bool.eq_iff_iff];simp only[Bool.and_eq_true,Bool.or_eq_true,decide_eq_true_eq,Bool.false_eq_true,false_iff,true_iff];omega
 ·intro h9;refine uO 1 ?_;refine u1 0 (aa rfl cD) ?_;refine u1 0 (ld rfl bq) ?_;refine u1 0 (aa rfl cD) ?_;refine u1 0 (ld rfl bq) ?_;refine ba 0 0 (bN rfl rfl) ?_ ?_
  ·intro h15;refine uO 1 ?_;refine u1 0 (aa rfl cT) ?_;refine u1 0 (ld rfl bq) ?_;refine u1 0 (aa rfl cT) ?_;refine u1 0 (ld rfl bq) ?_;refine u1 6 (aA rfl rfl) ?_;refine bt ?_;refine⟨?_,hS.nil⟩;unfold vQ
   congr 2
   rw[Bool.eq_iff_iff];simp only[Bool.and_eq_true,Bool.or_eq_true,decide_eq_true_eq,Bool.false_eq_true,false_iff,true_iff];omega
  ·intro h15;refine uO 12 ?_;refine bt ?_;refine⟨?_,hS.nil⟩;unfold vQ
   congr 2
   rw[Bool.eq_iff_iff];simp only[Bool.and_eq_true,Bool.or_eq_true,decide_eq_true_eq,Bool.false_eq_true,false_iff,true_iff];omega
theorem oy (W:World)(e1:aM)  : Calls Tryz.prog 155 #[.agg #[.int .i64 e1.rep,.int .i64 e1.num,.string e1.cg,.int .i64 e1.pF]] W fun e w'=>e=.returned (.int .i64 (qd e1))∧Sat W w' []:=by
 refine enter Tryz.func155 rfl rfl rfl (.cons (i:=0) rfl .nil) ?_;have hS:=Sat.start W;refine uC 2 ?_;refine uB rfl hS ?_;clear hS;intro b1 w hS;refine uO 7 ?_;refine u1 0 (aa rfl c5) ?_;refine u1 0 (aa rfl cD) ?_;refine u1 0 (ld rfl bq) ?_;refine ba 0 0 (aA rfl rfl) ?_ ?_
 ·intro h7;refine uO 18 ?_;refine bt ?_;refine⟨?_,hS.nil⟩;unfold qd;rw[if_pos (by omega)]
 ·intro h7;refine uO 1 ?_;refine u1 0 (aa rfl c5) ?_;refine u1 0 (aa rfl cD) ?_;refine u1 0 (ld rfl bq) ?_;refine ba 0 0 (gQ rfl rfl) ?_ ?_
  ·intro h12;refine uO 13 ?_;refine bt ?_;refine⟨?_,hS.nil⟩;unfold qd;rw[if_pos (by omega)]
  ·intro h12;refine uO 7 ?_;refine u1 0 (aa rfl c5) ?_;refine u1 0 (aa rfl cT) ?_;refine u1 0 (ld rfl bq) ?_;refine ba 0 0 (aA rfl rfl) ?_ ?_
   ·intro h18;refine uO 15 ?_;intro a hA;replace hA:=hA.kp [2] rfl;refine rC 3 hA ?_;clear hA a;refine bt ?_;refine⟨?_,hS.nil⟩;unfold qd;rw[if_neg (by omega),if_pos (by omega)]
   ·intro h18;refine uO 1 ?_;refine u1 0 (aa rfl c5) ?_;refine u1 0 (aa rfl cT) ?_;refine u1 0 (ld rfl bq) ?_;refine ba 0 0 (dW rfl rfl) ?_ ?_
    ·intro h23;refine uO 10 ?_;intro a hA;replace hA:=hA.kp [2] rfl;refine rC 3 hA ?_;clear hA a;refine bt ?_;refine⟨?_,hS.nil⟩;unfold qd;rw[if_neg (by omega),if_pos (by omega)]
    ·intro h23;refine uO 7 ?_;refine u1 0 (aa rfl px) ?_;refine u1 0 (ld rfl rZ) ?_;refine uF Cm rfl (lZ _ e1.cg) ?_;rintro e w ⟨rfl,hT⟩;replace hS:Sat _ _ _:=hS.ah hT;clear hT;generalize h28:(nc e1.cg)=bb;cases bb
     ·refine⟨_,rfl,?_⟩;refine u1 3 (aR rfl) ?_;intro a hA;replace hA:=hA.kp [1,2,25] rfl;refine rC 9 hA ?_;clear hA a;refine bt ?_;refine⟨?_,hS.nil⟩;unfold qd;rw[if_neg (by omega),if_neg (by omega),if_pos h28]
     ·refine⟨_,rfl,?_⟩;refine u1 3 (aR rfl) ?_;intro a hA;replace hA:=hA.kp [1,2,25] rfl;refine rC 3 hA ?_;clear hA a;refine u1 0 (aa rfl py) ?_;refine u1 0 (ld rfl bq) ?_;refine ba 0 0 (aA rfl rfl) ?_ ?_
      ·intro h33;refine uO 17 ?_;refine bt ?_;refine⟨?_,hS.nil⟩;unfold qd;rw[if_neg (by omega),if_neg (by omega),if_neg (by rw[h28];simp),if_pos (by omega)]
      ·intro h33;refine uO 1 ?_;refine u1 0 (aa rfl py) ?_;refine u1 0 (ld rfl bq) ?_;refine ba 0 0 (dW rfl rfl) ?_ ?_
       ·intro h37;refine uO 13 ?_;refine bt ?_;refine⟨?_,hS.nil⟩;unfold qd;rw[if_neg (by omega),if_neg (by omega),if_neg (by rw[h28];simp),if_pos (by omega)]
       ·intro h37;refine uO 14 ?_;refine bt ?_;refine⟨?_,hS.nil⟩;unfold qd;rw[if_neg (by omega),if_neg (by omega),if_neg (by rw[h28];simp),if_neg (by omega)]
theorem eJ (W:World)(A:Option Addr)(c:Nat)(xs:List aM)(hR:iz W A c xs)(hl:xs.length≤1000000000000):Calls Tryz.prog 120 #[.slice A (xs).length c] W fun e w'=>e=.returned (.int .i64 (if cO xs=true then 0 else 1))∧Sat W w' []:=by
 refine enter Tryz.func120 rfl rfl rfl (.cons (i:=0) rfl .nil) ?_;have hS:=Sat.start W;refine uC 9 ?_;refine u1 4 (au rfl bz) ?_;intro a hA;refine wp_loop_ghost (fun (mm:Nat) a w=>∃(i:Nat),Ag a 32 [(0,.slice A (xs).length c),(5,.slice A (xs).length c),(6,.int .i64 ((xs.length:Nat):Int)),(7,.int .i64 ((i:Nat):Int))]∧Sat W w ([])∧(i≤xs.length)∧(∀j x,j<i→xs[j]?=some x→oh (ahead none xs j) x=true)∧mm=xs.length-i) xs.length ?_ ?_
 ·replace hA:=hA.kp [0,5,6,7] rfl;exact⟨0,hA,hS,(by omega),(by intro j x hj;omega),by omega⟩
 intro m a w hI;clear hS hA;obtain⟨i,hA,hS,hi,he,rfl⟩:=hI;refine rC 2 hA ?_;clear hA a;refine ba 0 0 (aA rfl rfl) ?_ ?_
 ·intro h8;refine uO 11 ?_;obtain⟨A_p,rfl⟩:∃q,A=some q:=(hR.sat hS).aw (by omega);obtain⟨x,hx⟩:∃zz_,xs[i]?=some zz_:=⟨_,List.getElem?_eq_getElem (by omega)⟩;refine u1 0 (an rfl rfl bz fg (by omega) (by omega)) ?_;refine u1 0 (ag (cs:=mH x) rfl lX fg (fun j u e=>bS (hR.sat hS) (j1 hx j u e))) ?_;refine uN xx hS ?_;clear hS;intro b4 w hS;refine uO 1 ?_;refine uW (vs:=[_,_,_,_]) (cs':=[_,_,_,_]) rfl rfl fg hS ?_;clear hS;intro w hS;refine uO 3 ?_;intro a hA;refine bB [15] hS (by kernel_rfl) ?_;replace hS:=hS.drew;refine X1 0 [] hA rfl (by exact⟨[],hS⟩) (fun w hT=>have hS:=hT.sat;(ag (cs:=[_,_,_,_]) (hA.ev rfl) lX fg (by exact hS.ab (xs:=[_,_,_,_]) rfl))) ?_;clear hA a;intro a hA;refine aG 1 (by kernel_rfl) ?_;refine eF hA rfl rfl DQ rfl (oy _ x) ?_
  clear hA a;rintro e w ⟨rfl,hT⟩;replace hS:Sat _ _ _:=hS.ah hT;clear hT;refine⟨_,rfl,?_⟩;intro a hA;refine⟨.inr fun _=>(by exact⟨[],hS⟩),?_⟩;refine K.EX 2 hA pk rfl rfl rfl rfl (by kernel_rfl) (by kernel_rfl) (by kernel_rfl) (fun w=>(aD (hA.ev rfl) (hA.ev rfl))) ?_ ?_
  ·clear hA a;intro h14;refine uX [3,4,5,6,7,8,9,10,11,12,13,14,15,16,17,18] ?_;intro a hA;refine ai (by kernel_rfl) ?_ _;refine rE 13 hA ?_;clear hA a;refine bt ?_;have hok:rJ x=false:=by rw[←nv];simpa using h14
   have hst:oh (ahead none xs i) x=false:=by unfold oh;rw[hok];rfl
   have hf:cO xs=false:=nA hx hst;exact⟨by simp[hf],hS.nil⟩
  ·clear hA a;intro h14;refine uX [3,4] ?_;intro a hA;refine K.C8 5 hA pk rfl (ar hA rfl rfl rfl) rfl rfl (by kernel_rfl) (by kernel_rfl) (by kernel_rfl) (fun w=>(dW (hA.ev rfl) (hA.ev rfl))) ?_ ?_
   ·clear hA a;intro h17;refine uX [6,7,8] ?_;refine bF 9 [] rfl (fun w=>(aH (bJ rfl rfl (by omega) (by omega)) (show _=Value.int .i64 ((i-1:Nat):Int) from congrArg (Value.int .i64) (by omega)))) ?_;obtain⟨y,hy⟩:∃zz_,xs[i-1]?=some zz_:=⟨_,List.getElem?_eq_getElem (by omega)⟩;refine bF 10 [] rfl (fun w=>(an rfl rfl bz fg (by omega) (by omega))) ?_;refine bF 11 [] rfl (fun w=>(aJ rfl c5)) ?_;refine dH 12 [] rfl (by exact⟨[],hS⟩) (fun w hT=>have hS:=hT.sat;(ag (cs:=[.int .i64 y.rep,.int .i64 y.num]) rfl mh gO (fun j u e=>pj (hR.sat hS) (j1 hy _ u (Bw y j u e))))) ?_;refine bF 13 [] rfl (fun w=>(aa rfl c5)) ?_;refine dH 14 [] rfl (by exact⟨[],hS⟩) (fun w hT=>have hS:=hT.sat;(ag (cs:=[_,_]) rfl mh gO (by exact hS.ab (xs:=[_,_]) rfl))) ?_;intro a hA;refine aG 15 (by kernel_rfl) ?_
    refine DJ hA rfl (ar hA rfl rfl rfl) rfl D9 rfl (tG _ y x) ?_;clear hA a;rintro e w ⟨rfl,hT⟩;replace hS:Sat _ _ _:=hS.ah hT;clear hT;refine⟨_,rfl,?_⟩;intro a hA;refine⟨.inl rfl,?_⟩;refine K.DB 16 hA pk rfl (ar hA rfl rfl rfl) rfl rfl (by kernel_rfl) (by kernel_rfl) (by kernel_rfl) (fun w=>(aR (hA.ev rfl))) ?_ ?_
    ·clear hA a;intro h28;intro a hA;simp only[decide_eq_decide,decide_eq_true_eq,decide_eq_false_iff_not,Bool.not_eq_true',Bool.not_eq_false',bne_iff_ne,ne_eq,beq_iff_eq,Bool.not_eq_true,Bool.not_eq_false]at h28;refine rX [17,18] hA ?_;clear hA a;intro a hA;refine ai (by kernel_rfl) ?_ _;refine rE 13 hA ?_;clear hA a;refine bt ?_;have hok:rJ x=true:=by rw[←nv];simpa using h14
     have hst:oh (ahead none xs i) x=false:=by
      unfold oh ahead;rw[if_neg (by omega),hy,hok];simpa using h28
     have hf:cO xs=false:=nA hx hst;exact⟨by simp[hf],hS.nil⟩
    ·clear hA a;intro h28;intro a hA;simp only[decide_eq_decide,decide_eq_true_eq,decide_eq_false_iff_not,Bool.not_eq_true',Bool.not_eq_false',bne_iff_ne,ne_eq,beq_iff_eq,Bool.not_eq_true,Bool.not_eq_false]at h28;refine rX [17,18] hA ?_;clear hA a;intro a hA;refine ai (by kernel_rfl) ?_ _;refine rE 6 hA ?_;clear hA a;refine u1 2 (aj rfl rfl (by omega) (by omega)) ?_;intro a hA;replace hA:=hA.kp [0,5,6,7] rfl;have hok:rJ x=true:=by rw[←nv];simpa using h14
     have hst:oh (ahead none xs i) x=true:=by
      unfold oh ahead;rw[if_neg (by omega),hy,hok];simpa using h28
     exact⟨xs.length-(i+1),by omega,i+1,hA,hS.nil,by omega,fun j z hj hz=>(by rcases Nat.lt_or_ge j i with h | h;exact he j z h hz;obtain rfl:j=i:=(by omega);rw[hx]at hz;cases hz;exact hst),rfl⟩
   ·clear hA a;intro h17;refine uX [6,7,8,9,10,11,12,13,14,15,16,17,18] ?_;intro a hA;refine ai (by kernel_rfl) ?_ _;refine rE 6 hA ?_;clear hA a;refine u1 2 (aj rfl rfl (by omega) (by omega)) ?_;intro a hA;replace hA:=hA.kp [0,5,6,7] rfl;have hok:rJ x=true:=by rw[←nv];simpa using h14
    have hst:oh (ahead none xs i) x=true:=by
     obtain rfl:i=0:=by omega
     unfold oh ahead;rw[hok];rfl
    exact⟨xs.length-(i+1),by omega,i+1,hA,hS.nil,by omega,fun j z hj hz=>(by rcases Nat.lt_or_ge j i with h | h;exact he j z h hz;obtain rfl:j=i:=(by omega);rw[hx]at hz;cases hz;exact hst),rfl⟩
 ·intro h8;refine uO 15 ?_;refine bt ?_;obtain rfl:i=xs.length:=by omega
  have hf:cO xs=true:=cL fun j x hx=>he j x (List.getElem?_eq_some_iff.1 hx).1 hx
  exact⟨by simp[hf],hS.nil⟩
end Go.Proofs.YtkjabaihpkbfhaaGreat.Wk
namespace Go.Proofs.YtkjabaihpkbfhaaGreat.K
open Go Go.RowKit
variable {ds:List Deferred}
theorem p3 (zc:List Value)(h:0<zc.length):∀n:Nat,(List.range (n * zc.length)).map (fun i=>zc.toArray[i % zc.length]!)=(List.replicate n zc).flatten
 | 0=>by simp
 | n + 1 => by
   have hp:(List.range zc.length).map (fun i=>zc.toArray[i % zc.length]!)=zc:=by
    apply List.ext_getElem?;intro i;rw[List.getElem?_map];rcases Nat.lt_or_ge i zc.length with hi | hi
    ·
     rw[List.getElem?_range hi,List.getElem?_eq_getElem hi];simp[Nat.mod_eq_of_lt hi,hi]
    ·
     rw[List.getElem?_eq_none (by simpa using hi),List.getElem?_eq_none hi];rfl
   rw[Nat.add_mul,Nat.one_mul,Nat.add_comm (n * zc.length),List.range_add,List.map_append,hp,List.map_map];rw[show ((fun i=>zc.toArray[i % zc.length]!) ∘ fun x=>zc.length+x)=fun i=>zc.toArray[i % zc.length]! from by funext i;simp];rw[p3 zc h n,List.replicate_succ,List.flatten_cons]
section
variable {P:Program} {w:World} {ρ:Operand→Value} {dd:Option Tmp} {ty:TypeId} {ps:String} {af:Array Edge} {g:Option (Nat×Bool)} {e t:TypeId} {x y:Operand}
theorem x7 {z:Value}{zc:List Value}{by_ sz n:Nat}(hx:ρ x=.int .i64 n)(hy:ρ y=.int .i64 n)(ht:P.underlying t=some (.slice e))(hi:cN P e=some (some z,sz,by_))(hz:z.cells=zc.toArray)(hsz0:zc.length=sz)(hpos:0<sz)(hn:by_ * n≤140737488355328)(hn2:n≤140737488355328) :
 (execOp ρ ⟨dd,.makeSlice t x y,ty,ps,af,g⟩).run P w=.ok (.value (.slice (some ⟨w.heap.size,0,none⟩) n n)) (w.alloc (.cells (List.replicate n zc).flatten.toArray e)):=by
 obtain⟨i,hi',hq⟩:=Option.map_eq_some_iff.1 hi;simp only[Prod.mk.injEq]at hq;obtain⟨hz',hsz,hb⟩:=hq;have hw:IntKind.i64.wrap (n:Int)=n:=fG (by simp[IntKind.min,IntKind.signed,IntKind.bits];try omega) (by simp[IntKind.max,IntKind.signed,IntKind.bits];try omega)
 have h1:¬(281474976710656<(by_:Int) * (n:Int)):=by
  rw[show (by_:Int) * (n:Int)=((by_ * n:Nat):Int) from by simp];omega
 have h3:¬((n:Int)<0):=by omega
 have harr:((Array.range (n * sz)).map fun x=>z.cells[x % z.cells.size]!)=(List.replicate n zc).flatten.toArray:=by
  have:=p3 zc (by omega) n;apply Array.ext';rw[←this,hz,←hsz0];simp
 have hN:∃N:Int,N=(n:Int):=⟨_,rfl⟩;obtain⟨N,hN⟩:=hN;have hNn:N.toNat=n:=by omega
 rw[←hN]at hx hy hw h1 h3;have h4:¬(n * by_ > 140737488355328):=by rw[Nat.mul_comm];omega
 simp[execOp,hx,hy,Instr.makeSlice,run_underlying ht,asInt,typeInfo,sizeOf,zeroValue,hi',hsz,hb,hz',hw,h1,h3,hNn,askRoom,roomBytes,newRow,newObj,Sem.run,go_sem]
 by_cases h0:n=0
 ·
  subst h0;rw[if_pos (Nat.zero_mul _)]
  congr 2
  rw[Nat.zero_mul];simp
 ·
  rw[if_neg (Nat.mul_ne_zero h0 (by omega))]
  congr 1
  show w.alloc (.cells (Array.map (fun x=>z.cells[x % z.cells.size]!) (Array.range (n * sz))) e)=_;rw[harr]
end
section
variable {P:Program} {ops:Array Oper} {a:Act} {n:Nat} {E:Env} {w W:World} {rest:List Oper} {d:Nat} {Q:Exit→Act→World→Prop} {L:List As} {e t:TypeId} {ty:TypeId} {ps:String} {af:Array Edge} {x y:Operand}
theorem Gk {z:Value}{zc:List Value}{by_ m sz:Nat}(hA:Ag a n E ds)(hn:Nat.blt d n=true)(hx:ez E x=some (.int .i64 m))(hy:ez E y=some (.int .i64 m))(ht:P.underlying t=some (.slice e))(hi:cN P e=some (some z,sz,by_))(hz:z.cells=zc.toArray)(hsz0:zc.length=sz)(hpos:0<sz)(h1:by_ * m≤140737488355328)(h2:m≤140737488355328)
 (s:Sat W w L) (k:∀b w',Sat W w' (row e sz (.slice (some ⟨b,0,none⟩) m m) m (List.replicate m zc).flatten::L)→∀a',Ag a' n ((d,.slice (some ⟨b,0,none⟩) m m)::E) ds→wpList P ops Q rest a' w'):wpList P ops Q (⟨some d,.makeSlice t x y,ty,ps,af,none⟩::rest) a w:=
 uo hA rfl rfl hn (x7 (hA.ev hx) (hA.ev hy) ht hi hz hsz0 hpos h1 h2) (k _ _ (Sat.Db (s.alloc _) (by simp[hsz0]) (by omega)))
end
end Go.Proofs.YtkjabaihpkbfhaaGreat.K
namespace Go.Proofs.YtkjabaihpkbfhaaGreat.Wk
open Go Go.RowKit Go.Proofs.YtkjabaihpkbfhaaGreat Go.Proofs.YtkjabaihpkbfhaaGreat.K
theorem yJ (xs:List aM):(List.replicate xs.length [Value.int .i64 0,Value.int .i64 0]).flatten=(((xs.take 0).map aM.dot)++List.replicate (xs.length-0) (⟨0,0⟩:ir)).flatMap qf:=by
 rw[List.take_zero,List.map_nil,List.nil_append,Nat.sub_zero,List.flatMap_def,List.map_replicate];rfl
theorem qC {α:Type}{enc:α→List Value}{k:Nat}(hk:∀x,(enc x).length=k):∀ {xs:List α} {i:Nat} (x:α),i<xs.length→(xs.flatMap enc).take (i * k)++enc x++(xs.flatMap enc).drop (i * k+k)=(xs.set i x).flatMap enc
 | [],i,x,h=>by simp at h
 | y :: xs, 0, x, h => by
   rw[List.flatMap_cons,List.set_cons_zero,List.flatMap_cons,Nat.zero_mul,List.take_zero,List.nil_append,Nat.zero_add,List.drop_append,List.drop_of_length_le (by rw[hk];exact Nat.le_refl _),List.nil_append,hk,Nat.sub_self,List.drop_zero]
 | y :: xs, i + 1, x, h => by
   have ih:=qC hk (xs:=xs) (i:=i) x (by simpa using h);have e1:(i+1) * k=k+i * k:=by rw[Nat.add_mul];omega
   rw[List.flatMap_cons,List.set_cons_succ,List.flatMap_cons,←ih,e1,List.take_append,List.drop_append,List.take_of_length_le (by rw[hk];omega),List.drop_of_length_le (by rw[hk];omega),hk,List.nil_append];rw[show k+i * k-k=i * k from by omega,show k+i * k+k-k=i * k+k from by omega];simp only[List.append_assoc]
theorem zQ {xs:List aM}{i:Nat}{x:aM}(hx:xs[i]?=some x):((((xs.take i).map aM.dot)++List.replicate (xs.length-i) (⟨0,0⟩:ir)).flatMap qf).take (i * 2)++[Value.int .i64 x.rep,Value.int .i64 x.num]++((((xs.take i).map aM.dot)++List.replicate (xs.length-i) (⟨0,0⟩:ir)).flatMap qf).drop (i * 2+[Value.int .i64 x.rep,Value.int .i64 x.num].length)=(((xs.take (i+1)).map aM.dot)++List.replicate (xs.length-(i+1)) (⟨0,0⟩:ir)).flatMap qf:=by
 have hi:=(List.getElem?_eq_some_iff.1 hx).1;have h:=qC (enc:=qf) (k:=2) rA (xs:=((xs.take i).map aM.dot)++List.replicate (xs.length-i) (⟨0,0⟩:ir)) (i:=i) x.dot (by simp;omega)
 have e:(((xs.take i).map aM.dot)++List.replicate (xs.length-i) (⟨0,0⟩:ir)).set i x.dot=((xs.take (i+1)).map aM.dot)++List.replicate (xs.length-(i+1)) (⟨0,0⟩:ir):=by
  rw[List.set_append_right _ _ (by simp;omega),aP hx,List.map_append,List.append_assoc]
  congr 1
  obtain⟨k,hk⟩:∃k,xs.length-i=k+1:=⟨xs.length-i-1,by omega⟩;rw[hk,show xs.length-(i+1)=k from by omega,List.replicate_succ,List.length_map,List.length_take,show i-min i xs.length=0 from by omega]
  rfl
 rw[←e,←h];rfl
theorem yY (xs:List aM):((xs.take xs.length).map aM.dot)++List.replicate (xs.length-xs.length) (⟨0,0⟩:ir)=xs.map aM.dot:=by simp
theorem z8 (b i:Nat):Value.pointer (some ((⟨b,0,none⟩:Addr).add (((i:Nat):Int).toNat * 2)))=Value.pointer (some ⟨b,i * 2,none⟩):=by
 rw[Int.toNat_natCast];simp only[Addr.add,Nat.zero_add]
 split
 ·
  rename_i h;rw[h]
 ·
  rfl
end Go.Proofs.YtkjabaihpkbfhaaGreat.Wk
namespace Go.Proofs.YtkjabaihpkbfhaaGreat.Wk
open Go Go.RowKit Go.Proofs.YtkjabaihpkbfhaaGreat Go.Proofs.YtkjabaihpkbfhaaGreat.K Go.Proofs.YtkjabaihpkbfhaaGreat.T
theorem tY (W:World)(A:Option Addr)(c:Nat)(xs:List aM)(hR:iz W A c xs)(hl:xs.length≤10000000000)(hE:cO xs=true):Calls Tryz.prog 252 #[.slice A (xs).length c] W fun e w'=>∃q:PL,e=.returned (.tuple #[.agg #[.slice q.va q.d.vec.length q.vc,.slice q.ca q.d.ad.length q.cc],.int .i64 0])∧q.d=kL (xs.map aM.dot)∧Sat W w' [ej 3 q.va q.vc q.d.vec,bG 219 q.ca q.cc q.d.ad]:=by
 refine enter Tryz.func252 rfl rfl rfl (.cons (i:=0) rfl .nil) ?_;have hS:=Sat.start W;refine uC 2 ?_;refine uN db hS ?_;clear hS;intro b2 w hS;refine uO 7 ?_;refine uF sl rfl (eJ _ A c xs (hR.sat hS) (by omega)) ?_;rintro e w ⟨rfl,hT⟩;rw[if_pos hE];replace hS:Sat _ _ _:=hS.ah hT;clear hT;refine⟨_,rfl,?_⟩;refine u1 8 (cV (aD rfl rfl) (by omega)) ?_;refine u1 0 (au rfl bz) ?_;intro a hA;refine Gk (zc:=[_,_]) hA rfl rfl rfl xf FH rfl rfl (by decide) (by omega) (by omega) hS ?_;clear hA a hS;intro b13 w hS;refine uO 7 ?_;refine u1 4 (au rfl bz) ?_;intro a hA
 refine wp_loop_ghost (fun (mm:Nat) a w=>∃(i:Nat),Ag a 29 [(2,.pointer (some ⟨b2,0,none⟩)),(3,.int .i64 0),(4,.slice (some ⟨b13,0,none⟩) xs.length xs.length),(14,.slice A (xs).length c),(15,.int .i64 ((xs.length:Nat):Int)),(16,.int .i64 ((i:Nat):Int))]∧Sat W w ([row 214 2 (.slice (some ⟨b13,0,none⟩) xs.length xs.length) xs.length (((xs.take i).map aM.dot++List.replicate (xs.length-i) (⟨0,0⟩:ir)).flatMap qf),aS b2 (.cells #[.slice none 0 0,.slice none 0 0] 63)])∧(i≤xs.length)∧mm=xs.length-i) xs.length ?_ ?_
 ·replace hA:=hA.kp [2,3,4,14,15,16] rfl;rw[yJ]at hS;exact⟨0,hA,hS,(by omega),by omega⟩
 intro m a w hI;clear hS hA;obtain⟨i,hA,hS,hi,rfl⟩:=hI;refine rC 2 hA ?_;clear hA a;refine ba 0 0 (aA rfl rfl) ?_ ?_
 ·intro h17;refine uO 11 ?_;obtain⟨A_p,rfl⟩:∃q,A=some q:=(hR.sat hS).aw (by omega);obtain⟨x,hx⟩:∃zz_,xs[i]?=some zz_:=⟨_,List.getElem?_eq_getElem (by omega)⟩;refine u1 0 (an rfl rfl bz fg (by omega) (by omega)) ?_;refine u1 0 (ag (cs:=mH x) rfl lX fg (fun j u e=>bS (hR.sat hS) (j1 hx j u e))) ?_;refine uN xx hS ?_;clear hS;intro b6 w hS;refine uO 1 ?_;refine uW (vs:=[_,_,_,_]) (cs':=[_,_,_,_]) rfl rfl fg hS ?_;clear hS;intro w hS;refine uO 5 ?_;refine u1 0 (aa rfl c5) ?_;refine u1 0 (ag (cs:=[_,_]) rfl mh gO (by exact hS.ab (xs:=[_,_]) rfl)) ?_;refine u1 0 (aH (an rfl rfl xf gO (by omega) (by omega)) (show _=Value.pointer (some ⟨b13,i * 2,none⟩) from z8 b13 i)) ?_;intro a hA
  refine CN (i * 2) (vs:=[_,_]) hA rfl (by simp[Addr.add]) rfl gO (by simp[Value.oneCell']) (hS.p 1) (by rw[kS rA];simp;omega) ?_;clear hS;intro w hS;refine rO 4 hA ?_;clear hA a;refine u1 2 (aj rfl rfl (by omega) (by omega)) ?_;intro a hA;replace hA:=hA.kp [2,3,4,14,15,16] rfl;rw[zQ hx]at hS;exact⟨xs.length-(i+1),by omega,i+1,hA,rH ((hS.p 2).p 1),by omega,rfl⟩
 ·intro h17;obtain rfl:i=xs.length:=by omega
  intro a hA;rw[yY]at hS;replace hS:=jK hS (m:=(xs.map aM.dot).length) (by simp) rfl;rw[show Value.slice (some ⟨b13,0,none⟩) xs.length xs.length=.slice (some ⟨b13,0,none⟩) (xs.map aM.dot).length xs.length from by rw[List.length_map]]at hA;refine rO 9 hA ?_;clear hA a;intro a hA;replace hA:=hA.kp [2,3,4] rfl;refine rC 3 hA ?_;clear hA a;refine uF FR rfl (zO _ _ _ (xs.map aM.dot) hS.rd (by simp;omega)) ?_;rintro e w ⟨q,rfl,hq,hT⟩;replace hS:Sat _ _ (_::_::_):=hS.ah hT;clear hT;refine⟨_,rfl,?_⟩;refine uW (vs:=[_,_]) (cs':=[_,_]) rfl rfl aC (hS.p 3) ?_;clear hS;intro w hS;refine uO 4 ?_;intro a hA;refine cY hA rfl (cy (cs:=[_,_]) hA rfl bj aC (by exact hS.ab (xs:=[_,_]) rfl)) (cf hA rfl) ?_;exact⟨q,rfl,hq,rH ((hS.p 2).p 2)⟩
end Go.Proofs.YtkjabaihpkbfhaaGreat.Wk
namespace Go.Proofs.YtkjabaihpkbfhaaGreat.Wk
open Go Go.RowKit Go.Proofs.YtkjabaihpkbfhaaGreat Go.Proofs.YtkjabaihpkbfhaaGreat.K
def jJ (r:br):Bool:=(decide (r.cg={ data:=#[] }) || nc r.cg) && (bK r.a8 && !dN r.a8)
def rI (r:br):Int:=if (decide (r.cg={ data:=#[] }) || nc r.cg)=true then (if (bK r.a8 && !dN r.a8)=true then 0 else 1) else 5
theorem nd (r:br):decide (rI r=0)=jJ r:=by
 unfold rI jJ;cases (decide (r.cg={ data:=#[] }) || nc r.cg)
 ·
  rfl
 ·
  cases (bK r.a8 && !dN r.a8)<;>rfl
def s8 (a b:br):Int:=if F0 a.cg b.cg=0 then yl a.a8 b.a8 else F0 a.cg b.cg
def qN (p:Option br)(r:br):Bool:=jJ r && match p with | none=>true | some q=>decide (s8 q r<0)
def df (l:List br):Bool:=iC qN none l
def iL (r:br)(e:aM):Bool:=(decide (r.cg={ data:=#[] }) || decide (r.cg=e.cg)) && hasB r.a8 e.rep e.num
def bh (rs:List br)(e:aM):Bool:=rs.any fun r=>iL r e
theorem dF {rs:List RL}{i:Nat}{x:RL}(h:rs[i]?=some x):(rs.map RL.d)[i]?=some x.d:=by rw[List.getElem?_map,h];rfl
theorem qp (x:RL)(j:Nat)(u:Value)(e:([Value.slice x.p.va x.p.d.vec.length x.p.vc,Value.slice x.p.ca x.p.d.ad.length x.p.cc]:List Value)[j]?=some u):(j8 x)[1+j]?=some u:=by
 have hj:=(List.getElem?_eq_some_iff.1 e).1;rw[←e]
 match j,hj with
 | 0,_=>rfl
 | 1,_=>rfl
def du (n:Nat)(rs:List RL):Prop:=∀r∈rs,r.p.d.vec.length≤1000000000000∧r.p.d.ad.length≤n
theorem du.get {n:Nat}{rs:List RL}(h:du n rs){i:Nat}{x:RL}(hx:rs[i]?=some x):x.p.d.vec.length≤1000000000000∧x.p.d.ad.length≤n:=h x (List.mem_of_getElem? hx)
theorem wq {p q:aB}(h:∀r n,sR p r n↔sR q r n)(r n:Int):hasB p r n=hasB q r n:=by
 rw[Bool.eq_iff_iff,fD,fD,h]
theorem ym {ps:List aB}{r n:Int}:sR (fu ps) r n↔∃p∈ps,sR p r n:=by
 unfold sR;constructor
 ·
  rintro ⟨h1,h2,h3⟩;obtain⟨p,hp,h4⟩:=(oV ps (by omega) n).1 h3;exact⟨p,hp,h1,h2,h4⟩
 ·
  rintro ⟨p,hp,h1,h2,h3⟩;exact⟨h1,h2,(oV ps (by omega) n).2 ⟨p,hp,h3⟩⟩
theorem yW (ps:List aB)(r n:Int):hasB (fu ps) r n=ps.any fun p=>hasB p r n:=by
 rw[Bool.eq_iff_iff,fD,ym,List.any_eq_true];constructor
 ·
  rintro ⟨p,hp,h⟩;exact⟨p,hp,fD.2 h⟩
 ·
  rintro ⟨p,hp,h⟩;exact⟨p,hp,fD.1 h⟩
theorem pN (a b:aB)(r n:Int):hasB (jo a b) r n=(hasB a r n && !hasB b r n):=by
 rw[Bool.eq_iff_iff,fD,Bool.and_eq_true,fD,Bool.not_eq_true',←Bool.not_eq_true,fD];unfold sR;constructor
 ·
  rintro ⟨h1,h2,h3⟩;rw[nm a b (by omega)]at h3;obtain⟨h4,h5⟩:=(sP (bH a _) (bH b _) n).1 h3;exact⟨⟨h1,h2,h4⟩,fun h=>h5 h.2.2⟩
 ·
  rintro ⟨⟨h1,h2,h3⟩,h4⟩;refine⟨h1,h2,?_⟩;rw[nm a b (by omega)];exact (sP (bH a _) (bH b _) n).2 ⟨h3,fun h=>h4 ⟨h1,h2,h⟩⟩
theorem yh (p:aB)(r n:Int):hasB (fw p) r n=hasB p r n:=by
 refine wq (fun r n=>?_) r n;unfold sR;constructor
 ·
  rintro ⟨h1,h2,h3⟩;rw[show fw p=eY (bf p) from rfl,gj (fun r=>bH p r) (by omega)]at h3;exact⟨h1,h2,h3⟩
 ·
  rintro ⟨h1,h2,h3⟩;refine⟨h1,h2,?_⟩;rw[show fw p=eY (bf p) from rfl,gj (fun r=>bH p r) (by omega)];exact h3
theorem mV {p:aB}(h:dN p=true)(r n:Int):hasB p r n=false:=by
 rw[Bool.eq_false_iff,ne_eq,fD];rintro ⟨h1,h2,h3⟩;rw[(sr p).1 h r.toNat (by omega)]at h3;simp[bn]at h3
end Go.Proofs.YtkjabaihpkbfhaaGreat.Wk
namespace Go.Proofs.YtkjabaihpkbfhaaGreat.Wk
open Go Go.RowKit Go.Proofs.YtkjabaihpkbfhaaGreat Go.Proofs.YtkjabaihpkbfhaaGreat.K Go.Proofs Go.Shelf Go.Proofs.YtkjabaihpkbfhaaGreat.T
theorem wh (W:World)(a b:ByteArray):Calls Tryz.prog 397 #[.string a,.string b] W fun e w'=>e=.returned (.int .i64 (Lib.compareBytes a.data.toList b.data.toList))∧w'=W:=by
 go_enter Tryz.func397,Tryz.ntmps397
 go_wp2
 rw[run_callFunc_extern Tryz.func413 (by kernel_rfl) (by kernel_rfl) (by kernel_rfl) (e:=Extern.BytealgCompare.compare) (by kernel_rfl),Lib.run_compareString];simp only[Result.andThen];rw[Oper.upon_value]
 go_wp2
 go_ret
 exact⟨rfl,rfl⟩
theorem pn (W:World)(a b:ByteArray):Calls Tryz.prog 397 #[.string a,.string b] W fun e w'=>e=.returned (.int .i64 (F0 a b))∧Sat W w' []:=
 (wh W a b).mono fun e w' ⟨h,hw⟩=>⟨by rw[h,xO];rfl,by rw[hw];exact Sat.start W⟩
theorem oK (W:World)(s t:ByteArray)  : Calls Tryz.prog 386 #[.string s,.string t] W fun e w'=>e=.returned (.int .i64 (F0 s t))∧Sat W w' []:=by
 refine enter Tryz.func386 rfl rfl rfl (.cons (i:=0) rfl (.cons (i:=1) rfl .nil)) ?_;have hS:=Sat.start W;refine uC 9 ?_;refine uF FL rfl (pn _ s t) ?_;rintro e w ⟨rfl,hT⟩;replace hS:Sat _ _ _:=hS.ah hT;clear hT;refine⟨_,rfl,?_⟩;refine uO 4 ?_;refine bt ?_;exact⟨rfl,hS⟩
end Go.Proofs.YtkjabaihpkbfhaaGreat.Wk
namespace Go.Proofs.YtkjabaihpkbfhaaGreat.Wk
open Go Go.RowKit Go.Proofs.YtkjabaihpkbfhaaGreat Go.Proofs.YtkjabaihpkbfhaaGreat.K Go.Proofs.YtkjabaihpkbfhaaGreat.T
theorem rb (W:World)(x y:RL)(hpa:x.p.ok W)(hpb:y.p.ok W)(hla:x.p.d.ad.length≤10000000000)(hlb:y.p.d.ad.length≤10000000000):Calls Tryz.prog 369 #[.agg #[.string x.cg,.slice x.p.va x.p.d.vec.length x.p.vc,.slice x.p.ca x.p.d.ad.length x.p.cc],.agg #[.string y.cg,.slice y.p.va y.p.d.vec.length y.p.vc,.slice y.p.ca y.p.d.ad.length y.p.cc]] W fun e w'=>e=.returned (.int .i64 (s8 x.d y.d))∧Sat W w' []:=by
 refine enter Tryz.func369 rfl rfl rfl (.cons (i:=0) rfl (.cons (i:=1) rfl .nil)) ?_;have hS:=Sat.start W;refine uC 2 ?_;refine uB rfl hS ?_;clear hS;intro b2 w hS;refine uB rfl hS ?_;clear hS;intro b3 w hS;refine uO 6 ?_;refine u1 0 (aa rfl dk) ?_;refine u1 0 (ld rfl rZ) ?_;refine u1 0 (aa rfl dk) ?_;refine u1 0 (ld rfl rZ) ?_;refine uF FI rfl (oK _ x.cg y.cg) ?_;rintro e w ⟨rfl,hT⟩;replace hS:Sat _ _ _:=hS.ah hT;clear hT;refine⟨_,rfl,?_⟩;refine uO 6 ?_;refine ba 0 0 (aD rfl rfl) ?_ ?_
 ·intro h12;refine uO 11 ?_;refine bt ?_;refine⟨?_,hS.nil⟩;unfold s8 RL.d;dsimp only;rw[if_neg (by omega)]
 ·intro h12;refine uO 7 ?_;refine u1 0 (aa rfl cd) ?_;refine u1 0 (ag (cs:=[_,_]) rfl bj aC (by exact (hS.p 1).ab (xs:=[_,_]) rfl)) ?_;refine u1 0 (aa rfl cd) ?_;refine u1 0 (ag (cs:=[_,_]) rfl bj aC (by exact hS.ab (xs:=[_,_]) rfl)) ?_;refine uF D1 rfl (rB _ x.p y.p (hpa.sat hS) (hpb.sat hS) hla hlb) ?_;rintro e w ⟨rfl,hT⟩;replace hS:Sat _ _ _:=hS.ah hT;clear hT;refine⟨_,rfl,?_⟩;refine uO 4 ?_;refine bt ?_;refine⟨?_,hS.nil⟩;unfold s8 RL.d;dsimp only;rw[if_pos (by omega)]
theorem nD (W:World)(r:RL)(hp:r.p.ok W)(hrv:r.p.d.vec.length≤1000000000000)(hrc:r.p.d.ad.length≤10000000000):Calls Tryz.prog 368 #[.agg #[.string r.cg,.slice r.p.va r.p.d.vec.length r.p.vc,.slice r.p.ca r.p.d.ad.length r.p.cc]] W fun e w'=>e=.returned (.int .i64 (rI r.d))∧Sat W w' []:=by
 refine enter Tryz.func368 rfl rfl rfl (.cons (i:=0) rfl .nil) ?_;have hS:=Sat.start W;refine uC 2 ?_;refine uB rfl hS ?_;clear hS;intro b1 w hS;refine uO 6 ?_;refine u1 0 (aa rfl dk) ?_;refine u1 0 (ld rfl rZ) ?_;refine ba 0 0 (zA rfl rfl) ?_ ?_
 ·intro h5;refine uO 1 ?_;refine u1 0 (aa rfl dk) ?_;refine u1 0 (ld rfl rZ) ?_;intro a hA;refine eZ hA (ar hA rfl rfl rfl) rfl Cm rfl (lZ _ r.cg) ?_;clear hA a;rintro e w ⟨rfl,hT⟩;replace hS:Sat _ _ _:=hS.ah hT;clear hT;generalize h9:(nc r.cg)=bb;cases bb
  ·refine⟨_,rfl,?_⟩;refine u1 11 (aR rfl) ?_;refine bt ?_;refine⟨?_,hS.nil⟩;unfold rI RL.d;dsimp only;rw[if_neg (by rw[h9];simpa using h5)]
  ·refine⟨_,rfl,?_⟩;refine u1 9 (aR rfl) ?_;refine u1 0 (aa rfl cd) ?_;refine u1 0 (ag (cs:=[_,_]) rfl bj aC (by exact hS.ab (xs:=[_,_]) rfl)) ?_;refine uF re rfl (dJ _ r.p (hp.sat hS) hrc hrv) ?_;rintro e w ⟨rfl,hT⟩;replace hS:Sat _ _ _:=hS.ah hT;clear hT;generalize h14:(bK r.p.d)=bb;cases bb
   ·refine⟨_,rfl,?_⟩;refine u1 13 (aR rfl) ?_;intro a hA;replace hA:=hA.kp [2] rfl;refine rC 2 hA ?_;clear hA a;refine bt ?_;refine⟨?_,hS.nil⟩;unfold rI RL.d;dsimp only;rw[if_pos (by simp[h9]),if_neg (by rw[h14];simp)]
   ·refine⟨_,rfl,?_⟩;refine u1 1 (aR rfl) ?_;refine u1 0 (aa rfl cd) ?_;refine u1 0 (ag (cs:=[_,_]) rfl bj aC (by exact hS.ab (xs:=[_,_]) rfl)) ?_;intro a hA;refine eZ hA (ar hA rfl rfl rfl) rfl sx rfl (eD _ r.p (hp.sat hS) hrc) ?_;clear hA a;rintro e w ⟨rfl,hT⟩;replace hS:Sat _ _ _:=hS.ah hT;clear hT;generalize h19:(dN r.p.d)=bb;cases bb
    ·refine⟨_,rfl,?_⟩;refine uO 12 ?_;refine bt ?_;refine⟨?_,hS.nil⟩;unfold rI RL.d;dsimp only;rw[if_pos (by simp[h9]),if_pos (by rw[h14,h19];rfl)]
    ·refine⟨_,rfl,?_⟩;refine uO 11 ?_;refine bt ?_;refine⟨?_,hS.nil⟩;unfold rI RL.d;dsimp only;rw[if_pos (by simp[h9]),if_neg (by rw[h19];simp)]
 ·intro h5;refine uO 14 ?_;refine u1 0 (aa rfl cd) ?_;refine u1 0 (ag (cs:=[_,_]) rfl bj aC (by exact hS.ab (xs:=[_,_]) rfl)) ?_;refine uF re rfl (dJ _ r.p (hp.sat hS) hrc hrv) ?_;rintro e w ⟨rfl,hT⟩;replace hS:Sat _ _ _:=hS.ah hT;clear hT;generalize h14:(bK r.p.d)=bb;cases bb
  ·refine⟨_,rfl,?_⟩;refine u1 13 (aR rfl) ?_;intro a hA;replace hA:=hA.kp [2] rfl;refine rC 2 hA ?_;clear hA a;refine bt ?_;refine⟨?_,hS.nil⟩;unfold rI RL.d;dsimp only;rw[if_pos (by simp;exact .inl (Classical.not_not.1 h5)),if_neg (by rw[h14];simp)]
  ·refine⟨_,rfl,?_⟩;refine u1 1 (aR rfl) ?_;refine u1 0 (aa rfl cd) ?_;refine u1 0 (ag (cs:=[_,_]) rfl bj aC (by exact hS.ab (xs:=[_,_]) rfl)) ?_;intro a hA;refine eZ hA (ar hA rfl rfl rfl) rfl sx rfl (eD _ r.p (hp.sat hS) hrc) ?_;clear hA a;rintro e w ⟨rfl,hT⟩;replace hS:Sat _ _ _:=hS.ah hT;clear hT;generalize h19:(dN r.p.d)=bb;cases bb
   ·refine⟨_,rfl,?_⟩;refine uO 12 ?_;refine bt ?_;refine⟨?_,hS.nil⟩;unfold rI RL.d;dsimp only;rw[if_pos (by simp;exact .inl (Classical.not_not.1 h5)),if_pos (by rw[h14,h19];rfl)]
   ·refine⟨_,rfl,?_⟩;refine uO 9 ?_;intro a hA;replace hA:=hA.kp [2] rfl;refine rC 2 hA ?_;clear hA a;refine bt ?_;refine⟨?_,hS.nil⟩;unfold rI RL.d;dsimp only;rw[if_pos (by simp;exact .inl (Classical.not_not.1 h5)),if_neg (by rw[h19];simp)]
theorem dM (W:World)(A:Option Addr)(c:Nat)(rs:List RL)(hR:gz W A c rs)(hE:∀r∈rs,r.p.ok W)(hB:du 10000000000 rs)(hl:rs.length≤1000000000000):Calls Tryz.prog 353 #[.slice A (rs).length c] W fun e w'=>e=.returned (.int .i64 (if df (rs.map RL.d)=true then 0 else 1))∧Sat W w' []:=by
 refine enter Tryz.func353 rfl rfl rfl (.cons (i:=0) rfl .nil) ?_;have hS:=Sat.start W;refine uC 9 ?_;refine u1 4 (au rfl cW) ?_;intro a hA;refine wp_loop_ghost (fun (mm:Nat) a w=>∃(i:Nat),Ag a 30 [(0,.slice A (rs).length c),(5,.slice A (rs).length c),(6,.int .i64 ((rs.length:Nat):Int)),(7,.int .i64 ((i:Nat):Int))]∧Sat W w ([])∧(i≤rs.length)∧(∀j x,j<i→(rs.map RL.d)[j]?=some x→qN (ahead none (rs.map RL.d) j) x=true)∧mm=rs.length-i) rs.length ?_ ?_
 ·replace hA:=hA.kp [0,5,6,7] rfl;exact⟨0,hA,hS,(by omega),(by intro j x hj;omega),by omega⟩
 intro m a w hI;clear hS hA;obtain⟨i,hA,hS,hi,he,rfl⟩:=hI;refine rC 2 hA ?_;clear hA a;refine ba 0 0 (aA rfl rfl) ?_ ?_
 ·intro h8;refine uO 11 ?_;obtain⟨A_p,rfl⟩:∃q,A=some q:=(hR.sat hS).aw (by omega);obtain⟨x,hx⟩:∃zz_,rs[i]?=some zz_:=⟨_,List.getElem?_eq_getElem (by omega)⟩;have hxo:=hE x (List.mem_of_getElem? hx);obtain⟨hxv,hxc⟩:=hB.get hx;refine u1 0 (an rfl rfl cW bU (by omega) (by omega)) ?_;refine u1 0 (ag (cs:=j8 x) rfl iB bU (fun j u e=>bS (hR.sat hS) (dy hx j u e))) ?_;refine uN nH hS ?_;clear hS;intro b4 w hS;refine uO 1 ?_;refine uW (vs:=[_,_,_]) (cs':=[_,_,_]) rfl rfl bU hS ?_;clear hS;intro w hS;refine uO 3 ?_;intro a hA;refine bB [13] hS (by kernel_rfl) ?_;replace hS:=hS.drew;refine X1 0 [] hA rfl (by exact⟨[],hS⟩) (fun w hT=>have hS:=hT.sat;(ag (cs:=[_,_,_]) (hA.ev rfl) iB bU (by exact hS.ab (xs:=[_,_,_]) rfl))) ?_;clear hA a;intro a hA;refine aG 1 (by kernel_rfl) ?_
  refine eF hA rfl rfl Fe rfl (nD _ x (hxo.sat hS) hxv hxc) ?_;clear hA a;rintro e w ⟨rfl,hT⟩;replace hS:Sat _ _ _:=hS.ah hT;clear hT;refine⟨_,rfl,?_⟩;intro a hA;refine⟨.inr fun _=>(by exact⟨[],hS⟩),?_⟩;refine K.EX 2 hA pk rfl rfl rfl rfl (by kernel_rfl) (by kernel_rfl) (by kernel_rfl) (fun w=>(aD (hA.ev rfl) (hA.ev rfl))) ?_ ?_
  ·clear hA a;intro h14;refine uX [3,4,5,6,7,8,9,10,11,12,13,14,15,16] ?_;intro a hA;refine ai (by kernel_rfl) ?_ _;refine rE 13 hA ?_;clear hA a;refine bt ?_;have hok:jJ x.d=false:=by rw[←nd];simpa using h14
   have hst:qN (ahead none (rs.map RL.d) i) x.d=false:=by unfold qN;rw[hok];rfl
   have hf:df (rs.map RL.d)=false:=nA (dF hx) hst;exact⟨by simp[hf],hS.nil⟩
  ·clear hA a;intro h14;refine uX [3,4] ?_;intro a hA;refine K.C8 5 hA pk rfl (ar hA rfl rfl rfl) rfl rfl (by kernel_rfl) (by kernel_rfl) (by kernel_rfl) (fun w=>(dW (hA.ev rfl) (hA.ev rfl))) ?_ ?_
   ·clear hA a;intro h17;refine uX [6,7,8] ?_;refine bF 9 [] rfl (fun w=>(aH (bJ rfl rfl (by omega) (by omega)) (show _=Value.int .i64 ((i-1:Nat):Int) from congrArg (Value.int .i64) (by omega)))) ?_;obtain⟨y,hy⟩:∃zz_,rs[i-1]?=some zz_:=⟨_,List.getElem?_eq_getElem (by omega)⟩;have hyo:=hE y (List.mem_of_getElem? hy);obtain⟨hyv,hyc⟩:=hB.get hy;refine bF 10 [] rfl (fun w=>(an rfl rfl cW bU (by omega) (by omega))) ?_;refine dH 11 [] rfl (by exact⟨[],hS⟩) (fun w hT=>have hS:=hT.sat;(ag (cs:=j8 y) rfl iB bU (fun j u e=>bS (hR.sat hS) (dy hy j u e)))) ?_;refine dH 12 [] rfl (by exact⟨[],hS⟩) (fun w hT=>have hS:=hT.sat;(ag (cs:=[_,_,_]) rfl iB bU (by exact hS.ab (xs:=[_,_,_]) rfl))) ?_;intro a hA;refine aG 13 (by kernel_rfl) ?_
    refine DJ hA rfl (ar hA rfl rfl rfl) rfl Ey rfl (rb _ y x (hyo.sat hS) (hxo.sat hS) hyc hxc) ?_;clear hA a;rintro e w ⟨rfl,hT⟩;replace hS:Sat _ _ _:=hS.ah hT;clear hT;refine⟨_,rfl,?_⟩;intro a hA;refine⟨.inl rfl,?_⟩;refine K.C8 14 hA pk rfl (ar hA rfl rfl rfl) rfl rfl (by kernel_rfl) (by kernel_rfl) (by kernel_rfl) (fun w=>(gQ (hA.ev rfl) (hA.ev rfl))) ?_ ?_
    ·clear hA a;intro h26;refine uX [15,16] ?_;intro a hA;refine ai (by kernel_rfl) ?_ _;refine rE 13 hA ?_;clear hA a;refine bt ?_;have hok:jJ x.d=true:=by rw[←nd];simpa using h14
     have hst:qN (ahead none (rs.map RL.d) i) x.d=false:=by
      unfold qN ahead;rw[if_neg (by omega),dF hy,hok];simp;omega
     have hf:df (rs.map RL.d)=false:=nA (dF hx) hst;exact⟨by simp[hf],hS.nil⟩
    ·clear hA a;intro h26;refine uX [15,16] ?_;intro a hA;refine ai (by kernel_rfl) ?_ _;refine rE 6 hA ?_;clear hA a;refine u1 2 (aj rfl rfl (by omega) (by omega)) ?_;intro a hA;replace hA:=hA.kp [0,5,6,7] rfl;have hok:jJ x.d=true:=by rw[←nd];simpa using h14
     have hst:qN (ahead none (rs.map RL.d) i) x.d=true:=by
      unfold qN ahead;rw[if_neg (by omega),dF hy,hok];simp;omega
     exact⟨rs.length-(i+1),by omega,i+1,hA,hS.nil,by omega,fun j z hj hz=>(by rcases Nat.lt_or_ge j i with h | h;exact he j z h hz;obtain rfl:j=i:=(by omega);rw[dF hx]at hz;cases hz;exact hst),rfl⟩
   ·clear hA a;intro h17;refine uX [6,7,8,9,10,11,12,13,14,15,16] ?_;intro a hA;refine ai (by kernel_rfl) ?_ _;refine rE 6 hA ?_;clear hA a;refine u1 2 (aj rfl rfl (by omega) (by omega)) ?_;intro a hA;replace hA:=hA.kp [0,5,6,7] rfl;have hok:jJ x.d=true:=by rw[←nd];simpa using h14
    have hst:qN (ahead none (rs.map RL.d) i) x.d=true:=by
     obtain rfl:i=0:=by omega
     unfold qN ahead;rw[hok];rfl
    exact⟨rs.length-(i+1),by omega,i+1,hA,hS.nil,by omega,fun j z hj hz=>(by rcases Nat.lt_or_ge j i with h | h;exact he j z h hz;obtain rfl:j=i:=(by omega);rw[dF hx]at hz;cases hz;exact hst),rfl⟩
 ·intro h8;refine uO 15 ?_;refine bt ?_;obtain rfl:i=rs.length:=by omega
  have hf:df (rs.map RL.d)=true:=cL fun j x hx=>he j x (by have:=(List.getElem?_eq_some_iff.1 hx).1;simpa using this) hx
  exact⟨by simp[hf],hS.nil⟩
theorem tQ (W:World)(r:RL)(e1:aM)(hp:r.p.ok W)(hrv:r.p.d.vec.length≤1000000000000)(hrc:r.p.d.ad.length≤10000000000):Calls Tryz.prog 376 #[.agg #[.string r.cg,.slice r.p.va r.p.d.vec.length r.p.vc,.slice r.p.ca r.p.d.ad.length r.p.cc],.agg #[.int .i64 e1.rep,.int .i64 e1.num,.string e1.cg,.int .i64 e1.pF]] W fun e w'=>e=.returned (.bool (iL r.d e1))∧Sat W w' []:=by
 refine enter Tryz.func376 rfl rfl rfl (.cons (i:=0) rfl (.cons (i:=1) rfl .nil)) ?_;have hS:=Sat.start W;refine uC 2 ?_;refine uB rfl hS ?_;clear hS;intro b2 w hS;refine uB rfl hS ?_;clear hS;intro b3 w hS;refine uO 5 ?_;refine u1 0 (aa rfl dk) ?_;refine u1 0 (ld rfl rZ) ?_;refine ba 0 0 (kI rfl rfl) ?_ ?_
 ·intro h7;refine uO 8 ?_;refine u1 0 (aa rfl cd) ?_;refine u1 0 (ag (cs:=[_,_]) rfl bj aC (by exact (hS.p 1).ab (xs:=[_,_]) rfl)) ?_;refine u1 0 (aa rfl c5) ?_;refine u1 0 (ag (cs:=[_,_]) rfl mh gO (by exact hS.ab (xs:=[_,_]) rfl)) ?_;intro a hA;refine eZ hA (ar hA rfl rfl rfl) rfl CD rfl (su _ r.p e1.rep e1.num (hp.sat hS) hrv (by omega)) ?_;clear hA a;rintro e w ⟨rfl,hT⟩;replace hS:Sat _ _ _:=hS.ah hT;clear hT;refine⟨_,rfl,?_⟩;refine uO 5 ?_;refine bt ?_;refine⟨?_,hS.nil⟩;unfold iL RL.d;dsimp only;rw[decide_eq_true h7];rfl
 ·intro h7;refine uO 1 ?_;refine u1 0 (aa rfl dk) ?_;refine u1 0 (ld rfl rZ) ?_;refine u1 0 (aa rfl px) ?_;refine u1 0 (ld rfl rZ) ?_;refine ba 0 0 (kI rfl rfl) ?_ ?_
  ·intro h13;refine uO 2 ?_;refine u1 0 (aa rfl cd) ?_;refine u1 0 (ag (cs:=[_,_]) rfl bj aC (by exact (hS.p 1).ab (xs:=[_,_]) rfl)) ?_;refine u1 0 (aa rfl c5) ?_;refine u1 0 (ag (cs:=[_,_]) rfl mh gO (by exact hS.ab (xs:=[_,_]) rfl)) ?_;intro a hA;refine eZ hA (ar hA rfl rfl rfl) rfl CD rfl (su _ r.p e1.rep e1.num (hp.sat hS) hrv (by omega)) ?_;clear hA a;rintro e w ⟨rfl,hT⟩;replace hS:Sat _ _ _:=hS.ah hT;clear hT;refine⟨_,rfl,?_⟩;refine uO 5 ?_;refine bt ?_;refine⟨?_,hS.nil⟩;unfold iL RL.d;dsimp only;rw[decide_eq_true h13];simp
  ·intro h13;refine uO 12 ?_;refine bt ?_;refine⟨?_,hS.nil⟩;unfold iL RL.d;dsimp only;rw[decide_eq_false h7,decide_eq_false h13];rfl
end Go.Proofs.YtkjabaihpkbfhaaGreat.Wk
namespace Go.Proofs.YtkjabaihpkbfhaaGreat.Wk
open Go Go.RowKit Go.Proofs.YtkjabaihpkbfhaaGreat Go.Proofs.YtkjabaihpkbfhaaGreat.K
abbrev o0 (e:Nat)(A:Option Addr)(c:Nat)(rs:List RL):As:=row e 3 (.slice A rs.length c) rs.length (rs.flatMap j8)
abbrev ek (ei es:Nat)(rs:List RL):As:=bR (rs.map fun x=>x.p.ch ei es)
theorem hU {W w:World}{L:List As}{ei es:Nat}{rs:List RL}(s:ByteArray)(q:PL)(h:Sat W w (ej ei q.va q.vc q.d.vec::bG es q.ca q.cc q.d.ad::ek ei es rs::L)):Sat W w (ek ei es (rs++[⟨s,q⟩])::L):=by
 have h1:Sat W w (q.ch ei es::ek ei es rs::L):=PL.zh h;have h2:=h1.sj;unfold ek;rw[List.map_append];exact h2
theorem nK {W w:World}{L:List As}{er ei es:Nat}{A:Option Addr}{c:Nat}{rs:List RL}(h:Sat W w (o0 er A c rs::ek ei es rs::L)):Sat W w ((⟨A,c,rs⟩:jq).ch er ei es::L):=h.shut
def gL (rs:List br)(e:aM):Nat:=(rs.filter fun r=>iL r e).length
theorem pR {rs:List br}{e:aM}:gL rs e=0↔bh rs e=false:=by
 unfold gL bh;rw[List.length_eq_zero_iff,List.filter_eq_nil_iff,List.any_eq_false]
theorem ft {α:Type}{p:α→Bool}{xs:List α}{i:Nat}{x:α}(h:xs[i]?=some x):(xs.take (i+1)).filter p=(xs.take i).filter p++if p x=true then [x] else []:=by
 rw[aP h,List.filter_append]
 congr 1
 by_cases hp:p x=true
 ·
  rw[if_pos hp];simp[hp]
 ·
  rw[if_neg hp];simp[hp]
theorem fX {l:List br}(h:df l=true):∀r∈l,jJ r=true:=fun r hr=>by
 obtain⟨i,hi⟩:=List.mem_iff_getElem?.1 hr;have:=iP h i r hi;unfold qN at this;rw[Bool.and_eq_true]at this;exact this.1
theorem yr {r:br}(h:jJ r=true):fw r.a8=r.a8:=by
 unfold jJ bK at h;simp only[Bool.and_eq_true,decide_eq_true_eq]at h;exact h.2.1
theorem Az:eY (fun _=>[])=⟨[],[]⟩:=by
 unfold eY
 have h1:∀k,bW (bw fun _=>[]) k=0:=by
  intro k
  induction k with
  | zero=>rfl
  | succ k ih=>rw[bW,ih];rfl
 rw[h1]
 congr 1
theorem yi {f:Nat→List aX}(hf:∀r,can (f r))(h:dN (eY f)=true):eY f=⟨[],[]⟩:=by
 rw[←Az];refine mU fun r hr=>?_;have h1:=(sr _).1 h r hr;rwa[gj hf hr]at h1
theorem qE {ps:List aB}(h:dN (fu ps)=true):fu ps=⟨[],[]⟩:=yi (fun r=>dj _) h
structure lf (rs:List br)(i:Nat)(out:List br)(all:aB):Prop where
 DM:∀e,bh out e=bh (rs.take i) e
 al:∀r n,hasB all r n=true→∃x∈out,x.cg={ data:=#[] }∧hasB x.a8 r n=true
theorem vP (rs:List br):lf rs 0 [] ⟨[],[]⟩:=⟨fun e=>by simp[bh],fun r n h=>by simp[hasB,l5,jY]at h⟩
theorem jl (a b:List br)(e:aM):bh (a++b) e=(bh a e || bh b e):=by unfold bh;rw[List.any_append]
theorem gV {g:List br}{s:ByteArray}(h:∀x∈g,x.cg=s)(e:aM):bh g e=((decide (s={ data:=#[] }) || decide (s=e.cg)) && hasB (fu (g.map br.a8)) e.rep e.num):=by
 rw[yW];unfold bh
 induction g with
 | nil=>simp
 | cons x g ih =>
   rw[List.any_cons,List.map_cons,List.any_cons,ih fun y hy=>h y (by simp[hy])];unfold iL;rw[h x (by simp)];cases (decide (s={ data:=#[] }) || decide (s=e.cg))<;>simp
theorem lx {rs:List br}{i j:Nat}(h:i≤j)(e:aM):bh (rs.take j) e=(bh (rs.take i) e || bh ((rs.drop i).take (j-i)) e):=by
 rw[←jl]
 congr 1
 have:j=i+(j-i):=by omega
 conv=>lhs;rw[this,List.take_add]
theorem vG {rs out:List br}{i j:Nat}{all:aB}(h:lf rs i out all)(hij:i≤j)(hg:∀x∈(rs.drop i).take (j-i),x.cg={ data:=#[] })(he:dN (fu (((rs.drop i).take (j-i)).map br.a8))=false) :
 lf rs j (out++[⟨{ data:=#[] },fu (((rs.drop i).take (j-i)).map br.a8)⟩]) (fu (((rs.drop i).take (j-i)).map br.a8)):=by
 refine⟨fun e=>?_,fun r n hr=>⟨⟨{ data:=#[] },fu (((rs.drop i).take (j-i)).map br.a8)⟩,List.mem_append_right _ (List.mem_singleton.2 rfl),rfl,hr⟩⟩;rw[jl,h.DM,lx hij,gV hg];simp[bh,iL]
theorem sL {rs out:List br}{i j:Nat}{all:aB}(h:lf rs i out all)(hij:i≤j)(hg:∀x∈(rs.drop i).take (j-i),x.cg={ data:=#[] })(he:dN (fu (((rs.drop i).take (j-i)).map br.a8))=true) :
 lf rs j out (fu (((rs.drop i).take (j-i)).map br.a8)):=by
 refine⟨fun e=>?_,fun r n hr=>?_⟩
 ·
  rw[h.DM,lx hij,gV hg,mV he];simp
 ·
  rw[mV he]at hr;cases hr
theorem vg {rs out:List br}{i:Nat}{all:aB}(h:lf rs i out all){e:aM}(hr:hasB all e.rep e.num=true):bh out e=true:=by
 obtain⟨x,hx,h1,h2⟩:=h.al _ _ hr;unfold bh;rw[List.any_eq_true];exact⟨x,hx,by unfold iL;rw[h1,h2];simp⟩
theorem vw {rs out:List br}{i j:Nat}{all:aB}{s:ByteArray}(h:lf rs i out all)(hij:i≤j)(hs:¬s={ data:=#[] })(hg:∀x∈(rs.drop i).take (j-i),x.cg=s) :
 lf rs j (out++[⟨s,jo (fu (((rs.drop i).take (j-i)).map br.a8)) all⟩]) all:=by
 refine⟨fun e=>?_,fun r n hr=>?_⟩
 ·
  rw[jl,lx hij,gV hg,←h.DM];cases ha:hasB all e.rep e.num with
  | true=>rw[vg h ha];simp
  | false=>simp[bh,iL,pN,ha]
 ·
  obtain⟨x,hx,h1,h2⟩:=h.al r n hr;exact⟨x,by simp[hx],h1,h2⟩
theorem se {rs out:List br}{i j:Nat}{all:aB}{s:ByteArray}(h:lf rs i out all)(hij:i≤j)(hg:∀x∈(rs.drop i).take (j-i),x.cg=s)(he:dN (jo (fu (((rs.drop i).take (j-i)).map br.a8)) all)=true)(hs:¬s={ data:=#[] }) :
 lf rs j out all:=by
 refine⟨fun e=>?_,h.al⟩;rw[lx hij,gV hg,←h.DM];have h1:=mV he e.rep e.num;rw[pN]at h1;cases ha:hasB all e.rep e.num with
 | true=>rw[vg h ha];simp
 | false=>rw[ha]at h1;simp at h1;simp[h1]
end Go.Proofs.YtkjabaihpkbfhaaGreat.Wk
namespace Go.Proofs.YtkjabaihpkbfhaaGreat.Wk
open Go Go.RowKit Go.Proofs.YtkjabaihpkbfhaaGreat Go.Proofs.YtkjabaihpkbfhaaGreat.K Go.Proofs.YtkjabaihpkbfhaaGreat.T
theorem vV (W:World)(A:Option Addr)(c:Nat)(rs:List RL)(e1:aM)(hR:gz W A c rs)(hE:∀r∈rs,r.p.ok W)(hB:du 10000000000 rs)(hl:rs.length≤1000000000000):Calls Tryz.prog 359 #[.slice A (rs).length c,.agg #[.int .i64 e1.rep,.int .i64 e1.num,.string e1.cg,.int .i64 e1.pF]] W fun e w'=>e=.returned (.int .i64 ((gL (rs.map RL.d) e1:Nat):Int))∧Sat W w' []:=by
 refine enter Tryz.func359 rfl rfl rfl (.cons (i:=0) rfl (.cons (i:=1) rfl .nil)) ?_;have hS:=Sat.start W;refine uC 2 ?_;refine uB rfl hS ?_;clear hS;intro b3 w hS;refine uO 12 ?_;refine u1 4 (au rfl cW) ?_;intro a hA;refine wp_loop_ghost (fun (mm:Nat) a w=>∃(i:Nat),Ag a 21 [(3,.pointer (some ⟨b3,0,none⟩)),(5,.int .i64 (((gL ((rs.map RL.d).take i) e1):Nat):Int)),(8,.slice A (rs).length c),(9,.int .i64 ((rs.length:Nat):Int)),(10,.int .i64 ((i:Nat):Int))]∧Sat W w ([aS b3 (.cells #[.int .i64 e1.rep,.int .i64 e1.num,.string e1.cg,.int .i64 e1.pF] 216)])∧(i≤rs.length)∧(gL ((rs.map RL.d).take i) e1≤i)∧mm=rs.length-i) rs.length ?_ ?_
 ·replace hA:=hA.kp [3,5,8,9,10] rfl;exact⟨0,hA,hS,(by omega),(by simp[gL]),by omega⟩
 intro m a w hI;clear hS hA;obtain⟨i,hA,hS,hi,hn,rfl⟩:=hI;refine rC 2 hA ?_;clear hA a;refine ba 0 0 (aA rfl rfl) ?_ ?_
 ·intro h11;refine uO 10 ?_;obtain⟨A_p,rfl⟩:∃q,A=some q:=(hR.sat hS).aw (by omega);obtain⟨x,hx⟩:∃zz_,rs[i]?=some zz_:=⟨_,List.getElem?_eq_getElem (by omega)⟩;have hxo:=hE x (List.mem_of_getElem? hx);obtain⟨hxv,hxc⟩:=hB.get hx;refine u1 0 (an rfl rfl cW bU (by omega) (by omega)) ?_;refine u1 0 (ag (cs:=j8 x) rfl iB bU (fun j u e=>bS (hR.sat hS) (dy hx j u e))) ?_;refine uN nH hS ?_;clear hS;intro b7 w hS;refine uW (vs:=[_,_,_]) (cs':=[_,_,_]) rfl rfl bU hS ?_;clear hS;intro w hS;refine uO 4 ?_;refine u1 0 (ag (cs:=[_,_,_]) rfl iB bU (by exact hS.ab (xs:=[_,_,_]) rfl)) ?_;refine u1 0 (ag (cs:=[_,_,_,_]) rfl lX fg (by exact (hS.p 1).ab (xs:=[_,_,_,_]) rfl)) ?_;refine uF EN rfl (tQ _ x e1 (hxo.sat hS) hxv hxc) ?_
  rintro e w ⟨rfl,hT⟩;replace hS:Sat _ _ _:=hS.ah hT;clear hT;generalize h16:(iL x.d e1)=bb;cases bb
  ·refine⟨_,rfl,?_⟩;refine uO 7 ?_;refine u1 2 (aj rfl rfl (by omega) (by omega)) ?_;intro a hA;replace hA:=hA.kp [3,5,8,9,10] rfl;have ef:gL ((rs.map RL.d).take (i+1)) e1=gL ((rs.map RL.d).take i) e1+0:=by unfold gL;rw[ft (dF hx),List.length_append,if_neg (by simp[h16])];rfl
   rw[show gL ((rs.map RL.d).take i) e1=gL ((rs.map RL.d).take (i+1)) e1 from ef.symm]at hA;exact⟨rs.length-(i+1),by omega,i+1,hA,hS.drop,by omega,by omega,rfl⟩
  ·refine⟨_,rfl,?_⟩;refine uO 5 ?_;refine u1 5 (aj rfl rfl (by omega) (by omega)) ?_;refine u1 2 (aj rfl rfl (by omega) (by omega)) ?_;intro a hA;replace hA:=hA.kp [3,5,8,9,10] rfl;have ef:gL ((rs.map RL.d).take (i+1)) e1=gL ((rs.map RL.d).take i) e1+1:=by unfold gL;rw[ft (dF hx),List.length_append,if_pos h16];rfl
   rw[show ((gL ((rs.map RL.d).take i) e1:Nat):Int)+1=((gL ((rs.map RL.d).take (i+1)) e1:Nat):Int) from by rw[ef];rfl]at hA;exact⟨rs.length-(i+1),by omega,i+1,hA,hS.drop,by omega,by omega,rfl⟩
 ·intro h11;refine uO 16 ?_;refine bt ?_;obtain rfl:i=rs.length:=by omega
  rw[List.take_of_length_le (by simp)];exact⟨rfl,hS.nil⟩
theorem nW (W:World)(r:RL)(hp:r.p.ok W)(hrc:r.p.d.ad.length≤10000000000):Calls Tryz.prog 360 #[.agg #[.string r.cg,.slice r.p.va r.p.d.vec.length r.p.vc,.slice r.p.ca r.p.d.ad.length r.p.cc]] W fun e w'=>∃q:PL,e=.returned (.agg #[.string r.cg,.slice q.va q.d.vec.length q.vc,.slice q.ca q.d.ad.length q.cc])∧q.d=fw r.p.d∧Sat W w' [ej 3 q.va q.vc q.d.vec,bG 219 q.ca q.cc q.d.ad]:=by
 refine enter Tryz.func360 rfl rfl rfl (.cons (i:=0) rfl .nil) ?_;have hS:=Sat.start W;refine uC 2 ?_;refine uB rfl hS ?_;clear hS;intro b1 w hS;refine uN nH hS ?_;clear hS;intro b2 w hS;refine uO 3 ?_;intro a hA;refine bB [6] hS (by kernel_rfl) ?_;replace hS:=hS.drew;refine P1 0 [] hA rfl (fun w=>(aa (hA.ev rfl) dk)) ?_;clear hA a;refine dH 1 [] rfl (by exact⟨[],hS⟩) (fun w hT=>have hS:=hT.sat;(ld rfl rZ)) ?_;refine bF 2 [] rfl (fun w=>(aa rfl cd)) ?_;refine dH 3 [] rfl (by exact⟨[],hS⟩) (fun w hT=>have hS:=hT.sat;(ag (cs:=[_,_]) rfl bj aC (by exact (hS.p 1).ab (xs:=[_,_]) rfl))) ?_;intro a hA;refine aG 4 (by kernel_rfl) ?_;refine eF hA rfl rfl fO rfl (bD _ r.p (hp.sat hS) hrc) ?_;clear hA a;rintro e w ⟨q,rfl,hq,hT⟩;replace hS:Sat _ _ (_::_::_):=hS.ah hT;clear hT;refine⟨_,rfl,?_⟩;intro a hA
 refine⟨.inr fun _=>(by exact⟨[_,_],hS⟩),?_⟩;refine P1 5 [] hA rfl (fun w=>(ax hA rfl gY)) ?_;clear hA a;intro a hA;refine aG 6 (by kernel_rfl) ?_;refine cK (vs:=[_,_,_]) (cs':=[_,_,_]) hA rfl rfl rfl bU (by simp[Value.oneCell']) (hS.p 2) rfl rfl ?_;clear hS;intro w hS;refine⟨.inl rfl,?_⟩;refine ai (by kernel_rfl) ?_ _;refine rE 2 hA ?_;clear hA a;intro a hA;refine js hA rfl (cy (cs:=[_,_,_]) hA rfl iB bU (by exact hS.ab (xs:=[_,_,_]) rfl)) ?_;exact⟨q,rfl,hq,rH ((hS.p 2).p 2)⟩
theorem vI (W:World)(A:Option Addr)(c:Nat)(rs:List RL)(p:PL)(hR:gz W A c rs)(hE:∀r∈rs,r.p.ok W)(hB:du 10000000000 rs)(hl:rs.length≤1000000000000)(hp:p.ok W)(hpv:p.d.vec.length≤1000000000000)(hpc:p.d.ad.length≤10000000000)(hF:df (rs.map RL.d)=true)(hN:bK p.d=true):Calls Tryz.prog 347 #[.slice A (rs).length c,.agg #[.slice p.va p.d.vec.length p.vc,.slice p.ca p.d.ad.length p.cc]] W fun e w'=>∃q:jq,e=.returned (.tuple #[.slice q.a q.rs.length q.c,.int .i64 0])∧q.d=(rs.map RL.d).filter (fun r=>!c4 r.a8 p.d)∧Sat W w' [q.ch 206 3 219]:=by
 refine enter Tryz.func347 rfl rfl rfl (.cons (i:=0) rfl (.cons (i:=1) rfl .nil)) ?_;have hS:=Sat.start W;refine uC 2 ?_;refine uB rfl hS ?_;clear hS;intro b3 w hS;refine uO 8 ?_;refine uF qc rfl (dM _ A c rs (hR.sat hS) (fun r h=>(hE r h).sat hS) hB hl) ?_;rintro e w ⟨rfl,hT⟩;rw[if_pos hF];replace hS:Sat _ _ _:=hS.ah hT;clear hT;refine⟨_,rfl,?_⟩;refine u1 1 (cV (aD rfl rfl) (by omega)) ?_;refine u1 0 (ag (cs:=[_,_]) rfl bj aC (by exact hS.ab (xs:=[_,_]) rfl)) ?_;intro a hA;refine eZ hA (ar hA rfl rfl rfl) rfl re rfl (dJ _ p (hp.sat hS) hpc hpv) ?_;clear hA a;rintro e w ⟨rfl,hT⟩;rw[hN];replace hS:Sat _ _ _:=hS.ah hT;clear hT;refine⟨_,rfl,?_⟩;refine u1 15 (aR rfl) ?_;refine u1 4 (au rfl cW) ?_;intro a hA
 refine wp_loop_ghost (fun (mm:Nat) a w=>∃(i:Nat) (out:List RL) (Ao:Option Addr) (co:Nat),Ag a 35 [(3,.pointer (some ⟨b3,0,none⟩)),(6,.slice Ao (out).length co),(17,.slice A (rs).length c),(18,.int .i64 ((rs.length:Nat):Int)),(19,.int .i64 ((i:Nat):Int))]∧Sat W w ([o0 206 Ao co out,ek 3 219 out,aS b3 (.cells #[.slice p.va p.d.vec.length p.vc,.slice p.ca p.d.ad.length p.cc] 63)])∧(i≤rs.length)∧(out.map RL.d=((rs.map RL.d).take i).filter (fun r=>!c4 r.a8 p.d))∧(out.length≤i)∧mm=rs.length-i) rs.length ?_ ?_
 ·replace hA:=hA.kp [3,6,17,18,19] rfl;exact⟨0,[],none,0,hA,(hS.jC.bp 206 3),(by omega),(by rfl),(by simp),by omega⟩
 intro m a w hI;clear hS hA;obtain⟨i,out,Ao,co,hA,hS,hi,ho,hol,rfl⟩:=hI;refine rC 2 hA ?_;clear hA a;refine ba 0 0 (aA rfl rfl) ?_ ?_
 ·intro h20;refine uO 10 ?_;obtain⟨A_p,rfl⟩:∃q,A=some q:=(hR.sat hS).aw (by omega);obtain⟨x,hx⟩:∃zz_,rs[i]?=some zz_:=⟨_,List.getElem?_eq_getElem (by omega)⟩;have hxo:=hE x (List.mem_of_getElem? hx);obtain⟨hxv,hxc⟩:=hB.get hx;refine u1 0 (an rfl rfl cW bU (by omega) (by omega)) ?_;refine u1 0 (ag (cs:=j8 x) rfl iB bU (fun j u e=>bS (hR.sat hS) (dy hx j u e))) ?_;refine uN nH hS ?_;clear hS;intro b8 w hS;refine uW (vs:=[_,_,_]) (cs':=[_,_,_]) rfl rfl bU hS ?_;clear hS;intro w hS;refine uO 4 ?_;refine u1 0 (aa rfl cd) ?_;refine u1 0 (ag (cs:=[_,_]) rfl bj aC (by exact hS.ab (xs:=[_,_]) rfl)) ?_;refine u1 0 (ag (cs:=[_,_]) rfl bj aC (by exact (hS.p 3).ab (xs:=[_,_]) rfl)) ?_;refine uF CV rfl (mi _ x.p p (hxo.sat hS) (hp.sat hS) hxc hpc) ?_
  rintro e w ⟨rfl,hT⟩;replace hS:Sat _ _ _:=hS.ah hT;clear hT;generalize h26:(c4 x.p.d p.d)=bb;cases bb
  ·refine⟨_,rfl,?_⟩;refine u1 5 (aR rfl) ?_;refine u1 0 (ag (cs:=[_,_,_]) rfl iB bU (by exact hS.ab (xs:=[_,_,_]) rfl)) ?_;refine uF Cb rfl (nW _ x (hxo.sat hS) hxc) ?_;rintro e w ⟨q,rfl,hq,hT⟩;replace hS:Sat _ _ (_::_::_):=hS.ah hT;clear hT;refine⟨_,rfl,?_⟩;intro a hA;refine gH (vss:=[[_,_,_]]) hA rfl rfl cW ki rfl rfl rfl (by simp) rfl hS ?_;clear hA a hS;intro A31 w hS;intro a hA;refine eP hA rfl rfl rfl cW ki rfl (hS.p 4) (hS.rd.src cW (by simp[Value.oneCell'])) (by omega) (by omega) ?_;clear hA a hS;intro A32 c32 w hc32 hS;refine uO 5 ?_;refine u1 2 (aj rfl rfl (by omega) (by omega)) ?_;intro a hA;replace hA:=hA.kp [3,6,17,18,19] rfl;have ef:=ft (p:=fun r=>!c4 r.a8 p.d) (dF hx);rw[if_pos (by rw[show c4 x.d.a8 p.d=false from h26];rfl)]at ef
   have hxn:fw x.p.d=x.p.d:=yr (fX hF x.d (List.mem_of_getElem? (dF hx)));have el:out.length+1=(out++[(⟨x.cg,q⟩:RL)]).length:=by simp
   have hS2:=jK hS el (cs':=(out++[(⟨x.cg,q⟩:RL)]).flatMap j8) (by rw[List.flatMap_append];rfl);have hS3:=hU x.cg q (((hS2.p 5).p 4).p 4);rw[el]at hA;refine⟨rs.length-(i+1),by omega,i+1,out++[(⟨x.cg,q⟩:RL)],A32,c32,hA,vM (((hS3.p 4).p 1).p 2),by omega,?_,by simp;omega,rfl⟩;rw[List.map_append,ho,ef]
   congr 1
   show [(⟨x.cg,q.d⟩:br)]=[⟨x.cg,x.p.d⟩];rw[hq,hxn]
  ·refine⟨_,rfl,?_⟩;refine u1 7 (aR rfl) ?_;refine u1 2 (aj rfl rfl (by omega) (by omega)) ?_;intro a hA;replace hA:=hA.kp [3,6,17,18,19] rfl;have ef:=ft (p:=fun r=>!c4 r.a8 p.d) (dF hx);rw[if_neg (by rw[show c4 x.d.a8 p.d=true from h26];simp),List.append_nil]at ef;exact⟨rs.length-(i+1),by omega,i+1,out,Ao,co,hA,hS.drop,by omega,by rw[ef];exact ho,by omega,rfl⟩
 ·intro h20;refine uO 9 ?_;intro a hA;replace hA:=hA.kp [6] rfl;refine rC 8 hA ?_;clear hA a;refine gT ?_;obtain rfl:i=rs.length:=by omega
  rw[List.take_of_length_le (by simp)]at ho;exact⟨⟨Ao,co,out⟩,rfl,ho,jv (nK hS)⟩
end Go.Proofs.YtkjabaihpkbfhaaGreat.Wk
namespace Go.Proofs.YtkjabaihpkbfhaaGreat.Wk
open Go Go.RowKit Go.Proofs.YtkjabaihpkbfhaaGreat Go.Proofs.YtkjabaihpkbfhaaGreat.K
theorem vi {α:Type}{rs:List α}{i j:Nat}{y:α}(hy:rs[j]?=some y)(h:i≤j):(rs.drop i).take (j+1-i)=(rs.drop i).take (j-i)++[y]:=by
 have h1:(rs.drop i)[j-i]?=some y:=by rw[List.getElem?_drop,show i+(j-i)=j from by omega];exact hy
 rw[show j+1-i=(j-i)+1 from by omega,aP h1]
theorem CQ {W w:World}{L:List As}{ei es:Nat}{out:List RL}{al:PL}(h:al.d=⟨[],[]⟩∨∃x∈out,x.p=al)(s:Sat W w (ek ei es out::L)):al.ok w:=by
 rcases h with h | ⟨x,hx,rfl⟩
 ·
  obtain⟨va,vc,ca,cc,d⟩:=al;simp only at h;subst h;exact⟨⟨va,vc,rfl,Nat.zero_le _,rfl,.inl rfl⟩,⟨ca,cc,rfl,Nat.zero_le _,rfl,.inl rfl⟩⟩
 ·
  exact qo s x hx
theorem AI {W w:World}{L:List As}{ei es i:Nat}{rs:List RL}{x:RL}(s:ByteArray)(q:PL)(hx:rs[i]?=some x)(h:Sat W w (ej ei q.va q.vc q.d.vec::bG es q.ca q.cc q.d.ad::ek ei es rs::L)):Sat W w (ek ei es (rs.set i ⟨s,q⟩)::L):=by
 have h1:Sat W w (q.ch ei es::ek ei es rs::L):=PL.zh h;have hm:(rs.map fun x=>x.p.ch ei es)[i]?=some (x.p.ch ei es):=by rw[List.getElem?_map,hx];rfl
 have h2:=(h1.p 1).gy hm;have h3:=((h2.p 1).p 2).uU (by rw[List.length_map];exact (List.getElem?_eq_some_iff.1 hx).1);unfold ek;rw[List.map_set];exact (h3.p 1).drop
theorem pf (a b:List aB):cm (a++b)=cm a+cm b:=by unfold cm;rw[List.map_append,List.sum_append]
theorem ur (ps:List aB)(i k:Nat):cm ((ps.drop i).take k)≤cm ps:=by
 have h1:cm ps=cm (ps.take i)+cm (ps.drop i):=by rw[←pf,List.take_append_drop]
 have h2:cm (ps.drop i)=cm ((ps.drop i).take k)+cm ((ps.drop i).drop k):=by rw[←pf,List.take_append_drop]
 omega
theorem nQ (ps:List aB):ps.length≤cm ps:=by
 induction ps with
 | nil=>simp
 | cons p ps ih=>unfold cm at *;rw[List.map_cons,List.sum_cons,List.length_cons];omega
theorem vC (ps:List aB):(fu ps).ad.length≤16 * cm ps:=by
 refine qj (fun r _=>?_) 16 (Nat.le_refl _);refine Nat.le_trans (cx _) ?_;have:=ke ps r;unfold i7 at this;exact this
theorem ub (ps:List aB):uE (fu ps):=pY fun r=>dj _
theorem qK (a b:aB):uE (jo a b):=pY fun r=>ot (bH a r) (bH b r)
theorem uZ {α:Type}:∀ {l:List α} {i:Nat} {v:α},l[i]?=some v→l.set i v=l
 | [],i,v,h=>by simp at h
 | a::l,0,v,h=>by simp at h;subst h;rfl
 | a::l,i+1,v,h=>by rw[List.set_cons_succ,uZ (by simpa using h)]
theorem BT {rs:List RL}{i:Nat}{x:RL}{q:PL}(hx:rs[i]?=some x)(hq:q.d=fw x.p.d)(e:aM):bh ((rs.set i ⟨x.cg,q⟩).map RL.d) e=bh (rs.map RL.d) e:=by
 have hc:iL (RL.d ⟨x.cg,q⟩) e=iL x.d e:=by unfold iL RL.d;dsimp only;rw[hq,yh]
 unfold bh;rw[List.any_map,List.any_map]
 have hm:(rs.set i ⟨x.cg,q⟩).map ((fun r=>iL r e) ∘ RL.d)=rs.map ((fun r=>iL r e) ∘ RL.d):=by
  rw[List.map_set,show ((fun r=>iL r e) ∘ RL.d) ⟨x.cg,q⟩=((fun r=>iL r e) ∘ RL.d) x from hc];have h1:(rs.map ((fun r=>iL r e) ∘ RL.d))[i]?=some (((fun r=>iL r e) ∘ RL.d) x):=by rw[List.getElem?_map,hx];rfl
  exact uZ h1
 have ha:∀l:List RL,l.any ((fun r=>iL r e) ∘ RL.d)=(l.map ((fun r=>iL r e) ∘ RL.d)).any id:=fun l=>by rw[List.any_map];rfl
 rw[ha,ha,hm]
end Go.Proofs.YtkjabaihpkbfhaaGreat.Wk
namespace Go.Proofs.YtkjabaihpkbfhaaGreat.Wk
open Go Go.RowKit Go.Proofs.YtkjabaihpkbfhaaGreat Go.Proofs.YtkjabaihpkbfhaaGreat.K Go.Proofs.YtkjabaihpkbfhaaGreat.T
theorem wE (W:World)(A:Option Addr)(c:Nat)(rs:List RL)(hR:gz W A c rs)(hE:∀r∈rs,r.p.ok W)(hB:du 10000000000 rs)(hl:rs.length≤1000000000000)(hs:cm (rs.map fun r=>r.p.d)≤16777216)(hF:df (rs.map RL.d)=true):Calls Tryz.prog 358 #[.slice A (rs).length c] W fun e w'=>∃q:jq,e=.returned (.tuple #[.slice q.a q.rs.length q.c,.int .i64 0])∧(∀e2,bh q.d e2=bh (rs.map RL.d) e2)∧du 10000000000 q.rs∧q.rs.length≤1000000000000∧Sat W w' [q.ch 206 3 219]:=by
 refine enter Tryz.func358 rfl rfl rfl (.cons (i:=0) rfl .nil) ?_;have hS:=Sat.start W;have hrl:=nQ (rs.map fun r=>r.p.d);intro a hA;rw[List.length_map]at hrl;refine rC 10 hA ?_;clear hA a;refine uF qc rfl (dM _ A c rs (hR.sat hS) (fun r h=>(hE r h).sat hS) hB hl) ?_;rintro e w ⟨rfl,hT⟩;rw[if_pos hF];replace hS:Sat _ _ _:=hS.ah hT;clear hT;refine⟨_,rfl,?_⟩;refine u1 7 (cV (aD rfl rfl) (by omega)) ?_;refine uN db hS ?_;clear hS;intro b4 w hS;refine uO 14 ?_;intro a hA
 refine wp_loop_ghost (fun (mm:Nat) a w=>∃(i:Nat) (out:List RL) (Ao:Option Addr) (co:Nat) (al:PL),Ag a 89 [(0,.slice A (rs).length c),(4,.pointer (some ⟨b4,0,none⟩)),(5,.slice Ao (out).length co),(6,.int .i64 ((i:Nat):Int))]∧Sat W w ([aS b4 (.cells #[.slice al.va al.d.vec.length al.vc,.slice al.ca al.d.ad.length al.cc] 63),o0 206 Ao co out,ek 3 219 out])∧(i≤rs.length)∧(lf (rs.map RL.d) i (out.map RL.d) al.d)∧(out.length≤i)∧(∀x∈out,x.p.d.vec.length≤16∧x.p.d.ad.length≤9900000000∧(x.cg={ data:=#[] }→x.p.d.ad.length≤300000000))∧(al.d=⟨[],[]⟩∨∃x∈out,x.p=al)∧(al.d.ad.length≤300000000)∧mm=rs.length-i) rs.length ?_ ?_
 ·replace hA:=hA.kp [0,4,5,6] rfl;exact⟨0,[],none,0,⟨none,0,none,0,⟨[],[]⟩⟩,hA,((hS.jC.bp 206 3).p 2),(by omega),(by exact vP _),(by simp),(by intro x hx;cases hx),(by exact .inl rfl),(by simp),by omega⟩
 intro m a w hI;clear hS hA;obtain⟨i,out,Ao,co,al,hA,hS,hi,hF1,hol,hsm,hal,hac,rfl⟩:=hI;refine rC 5 hA ?_;clear hA a;refine u1 0 (au rfl cW) ?_;refine ba 0 0 (aA rfl rfl) ?_ ?_
 ·intro h16;obtain⟨x0,hx0⟩:∃x,rs[i]?=some x:=⟨_,List.getElem?_eq_getElem (by omega)⟩;obtain⟨A_p,rfl⟩:∃q,A=some q:=(hR.sat hS).aw (by omega);refine uO 19 ?_;intro a hA;refine wp_loop_ghost (fun (mm:Nat) a w=>∃(j:Nat) (ps:List PL) (Ap:Option Addr) (cp:Nat),Ag a 89 [(0,.slice (some A_p) (rs).length c),(4,.pointer (some ⟨b4,0,none⟩)),(5,.slice Ao (out).length co),(6,.int .i64 ((i:Nat):Int)),(7,.int .i64 ((j:Nat):Int)),(8,.slice Ap (ps).length cp)]∧Sat W w ([row 63 2 (.slice Ap ps.length cp) ps.length (ps.flatMap o7),aS b4 (.cells #[.slice al.va al.d.vec.length al.vc,.slice al.ca al.d.ad.length al.cc] 63),o0 206 Ao co out,ek 3 219 out])∧(i≤j)∧(j≤rs.length)∧(ps=((rs.drop i).take (j-i)).map RL.p)∧(∀x∈(((rs.drop i).take (j-i)).map RL.d),x.cg=x0.cg)∧mm=rs.length-j) (rs.length-i) ?_ ?_
  ·replace hA:=hA.kp [0,4,5,6,7,8] rfl;exact⟨i,[],none,0,hA,(hS.bp 63 2),(by omega),(by omega),(by simp),(by simp),by omega⟩
  intro m a w hI;clear hS hA;obtain⟨j,ps,Ap,cp,hA,hS,hij,hj,hps,hsk,rfl⟩:=hI;refine rC 2 hA ?_;clear hA a;intro a hA;refine cZ (fun w'=>Sat _ w' _) (by kernel_rfl) (by kernel_rfl) hS.drew ?_;refine rQ 2 hA ?_;clear hA a;refine bC 0 (fun w hS=>(au rfl cW)) ?_;intro a hA;refine K.sq hA rfl rfl rfl (fun w hS=>(aA (hA.ev rfl) (hA.ev rfl))) ?_ ?_
  ·clear hA a;intro h21;refine uQ 3 ?_;obtain⟨y,hy⟩:∃zz_,rs[j]?=some zz_:=⟨_,List.getElem?_eq_getElem (by omega)⟩;refine bC 0 (fun w hS=>(an rfl rfl cW bU (by omega) (by omega))) ?_;refine bC 0 (fun w hS=>(aJ rfl dk)) ?_;refine bC 2 (fun w hS=>(av rfl rZ (bS (hR.sat hS) (dy hy 0 _ rfl)))) ?_;refine bC 0 (fun w hS=>(an rfl rfl cW bU (by omega) (by omega))) ?_;refine bC 0 (fun w hS=>(aJ rfl dk)) ?_;refine bC 0 (fun w hS=>(av rfl rZ (bS (hR.sat hS) (dy hx0 0 _ rfl)))) ?_;intro a hA;refine K.tL hA (ar hA rfl rfl rfl) rfl rfl (fun w hS=>(kI (hA.ev rfl) (hA.ev rfl))) ?_ ?_
   ·clear hA a;intro h33;refine uQ 1 ?_;intro a hA;refine wpQuiet_nil ?_;clear hS;intro w hS;refine rE 7 hA ?_;clear hA a;have hpl:ps.length≤rs.length:=(by rw[hps];simp;omega);refine uO 3 ?_;refine u1 0 (an rfl rfl cW bU (by omega) (by omega)) ?_;refine u1 0 (aJ rfl cd) ?_;refine u1 0 (ag (cs:=[.slice y.p.va y.p.d.vec.length y.p.vc,.slice y.p.ca y.p.d.ad.length y.p.cc]) rfl bj aC (fun j u e=>pj (hR.sat hS) (dy hy _ u (qp y j u e)))) ?_;intro a hA;refine gH (vss:=[[_,_]]) hA rfl rfl gr nR rfl rfl rfl (by simp) rfl hS ?_;clear hA a hS;intro A41 w hS;intro a hA;refine eP hA rfl rfl rfl gr nR rfl (hS.p 1) (hS.rd.src gr (by simp[Value.oneCell'])) (by omega) (by omega) ?_;clear hA a hS;intro A42 c42 w hc42 hS;refine uO 5 ?_;refine u1 3 (aj rfl rfl (by omega) (by omega)) ?_;intro a hA
    replace hA:=hA.kp [0,4,5,6,7,8] rfl;have ep:ps++[y.p]=((rs.drop i).take (j+1-i)).map RL.p:=by rw[vi hy hij,List.map_append,←hps];rfl
    have el:ps.length+1=(ps++[y.p]).length:=by simp
    have hS2:=jK hS el (cs':=(ps++[y.p]).flatMap o7) (by rw[List.flatMap_append];rfl);rw[el]at hA;refine⟨rs.length-(j+1),by omega,j+1,ps++[y.p],A42,c42,hA,w9 ((((hS2.p 4).p 4).p 4).p 3),by omega,by omega,ep,?_,rfl⟩;rw[vi hy hij,List.map_append];intro z hz;rcases List.mem_append.1 hz with hz | hz
    ·exact hsk z hz
    ·simp at hz;subst hz;exact h33
   ·clear hA a;intro h33;have hjlt:i<j:=(by rcases Nat.lt_or_ge i j with h | h;exact h;obtain rfl:j=i:=(by omega);rw[hx0]at hy;cases hy;exact absurd rfl h33);have hEp:∀p∈ps,p.ok W:=fun p hp=>(by rw[hps]at hp;obtain⟨x,hx,rfl⟩:=List.mem_map.1 hp;exact hE x (List.mem_of_mem_drop (List.mem_of_mem_take hx)))
    have hsp:cm (ps.map PL.d)≤16777216:=(by rw[hps,List.map_map];refine Nat.le_trans ?_ hs;rw[List.map_take,List.map_drop];exact ur _ _ _);have hpl:ps.length≤rs.length:=(by rw[hps];simp;omega);refine uQ 1 ?_;intro a hA;refine wpQuiet_nil ?_;clear hS;intro w hS;refine rE 7 hA ?_;clear hA a;intro a hA;refine iD (fun a w=>∃(b9:Nat) (q:PL),Ag a 89 [(0,.slice (some A_p) (rs).length c),(4,.pointer (some ⟨b4,0,none⟩)),(5,.slice Ao (out).length co),(7,.int .i64 ((j:Nat):Int)),(9,.pointer (some ⟨b9,0,none⟩))]∧Sat W w ([aS b9 (.cells #[.string x0.cg,.slice q.va q.d.vec.length q.vc,.slice q.ca q.d.ad.length q.cc] 206),ej 3 q.va q.vc q.d.vec,bG 219 q.ca q.cc q.d.ad,aS b4 (.cells #[.slice al.va al.d.vec.length al.vc,.slice al.ca al.d.ad.length al.cc] 63),o0 206 Ao co out,ek 3 219 out])∧(q.d=(fu (ps.map PL.d)))) ?_ ?_
    ·refine bB [9] hS (by kernel_rfl) ?_;replace hS:=hS.drew;refine rX [0,1] hA ?_;clear hA a;refine bF 2 [] rfl (fun w=>(an rfl rfl cW bU (by omega) (by omega))) ?_;refine bF 3 [] rfl (fun w=>(aJ rfl dk)) ?_;refine dH 4 [5] rfl (by exact⟨[],hS⟩) (fun w hT=>have hS:=hT.sat;(av rfl rZ (bS (hR.sat hS) (dy hx0 0 _ rfl)))) ?_;intro a hA;refine kN 6 8 (by kernel_rfl) ?_ ?_
     ·refine eF hA rfl rfl xH rfl (iU _ Ap cp ps (by exact hS.rd) (fun p hp=>(hEp p hp).sat hS) (by omega) (by omega)) ?_;clear hA a;rintro e w ⟨q,rfl,hq,hT⟩;replace hS:Sat _ _ (_::_::_):=hS.ah hT;clear hT;refine⟨_,rfl,?_⟩;intro a hA;refine⟨.inr fun _=>(by exact⟨[_,_],hS⟩),?_⟩;refine P1 7 [] hA rfl (fun w=>(ax hA rfl gY)) ?_;clear hA a;intro a hA;refine aG 8 (by kernel_rfl) ?_;refine eN hA rfl rfl nH hS ?_;clear hA a hS;intro b9 w hS;intro a hA;refine⟨.inr fun _=>(by exact⟨[_,_,_],hS⟩),?_⟩;refine aG 9 (by kernel_rfl) ?_;refine cK (vs:=[_,_,_]) (cs':=[_,_,_]) hA rfl rfl rfl bU (by simp[Value.oneCell']) hS rfl rfl ?_;clear hS;intro w hS;refine⟨.inl rfl,?_⟩;refine ai (by kernel_rfl) ?_ _;replace hA:=hA.kp [0,4,5,7,9] rfl
      first
       | exact⟨b9,q,hA,((((((hS.p 6).p 6).p 6).p 5).p 5).p 5).cA [_,_,_,_,_,_],(by exact hq)⟩
     ·refine eN hA rfl rfl nH hS ?_;clear hA a hS;intro b9 w hS;intro a hA;refine⟨.inr fun _=>(by exact⟨[_],hS⟩),?_⟩;refine aG 6 (by kernel_rfl) ?_;refine eF hA rfl rfl xH rfl (iU _ Ap cp ps (by exact (hS.p 1).rd) (fun p hp=>(hEp p hp).sat hS) (by omega) (by omega)) ?_;clear hA a;rintro e w ⟨q,rfl,hq,hT⟩;replace hS:Sat _ _ (_::_::_):=hS.ah hT;clear hT;refine⟨_,rfl,?_⟩;intro a hA;refine⟨.inr fun _=>(by exact⟨[_,_,_],hS⟩),?_⟩;refine P1 7 [] hA rfl (fun w=>(ax hA rfl gY)) ?_;clear hA a;intro a hA;refine aG 9 (by kernel_rfl) ?_;refine cK (vs:=[_,_,_]) (cs':=[_,_,_]) hA rfl rfl rfl bU (by simp[Value.oneCell']) (hS.p 2) rfl rfl ?_;clear hS;intro w hS;refine⟨.inl rfl,?_⟩;refine ai (by kernel_rfl) ?_ _;replace hA:=hA.kp [0,4,5,7,9] rfl
      first
       | exact⟨b9,q,hA,((((((hS.p 6).p 6).p 6).p 5).p 5).p 5).cA [_,_,_,_,_,_],(by exact hq)⟩
    ·intro a w hI;clear hS hA;obtain⟨b9,q,hA,hS,hq⟩:=hI;have hgp:ps.map PL.d=(((rs.drop i).take (j-i)).map RL.d).map br.a8:=by rw[hps];simp[List.map_map,Function.comp_def,RL.d]
     have hqc:=ub (ps.map PL.d);rw[←hq]at hqc;have hqv:=hqc.len;have hql:=vC (ps.map PL.d);rw[←hq]at hql;have hgl:(((rs.drop i).take (j-i)).map RL.d)=((rs.map RL.d).drop i).take (j-i):=by rw[List.map_take,List.map_drop]
     rw[hgp,hgl]at hq;rw[hgl]at hsk;refine rC 3 hA ?_;clear hA a;refine u1 0 (aa rfl dk) ?_;refine u1 0 (ld rfl rZ) ?_;refine ba 0 0 (kI rfl rfl) ?_ ?_
     ·intro h55;refine uO 4 ?_;refine u1 0 (aa rfl cd) ?_;refine u1 0 (ag (cs:=[_,_]) rfl bj aC (by exact hS.ab (xs:=[_,_]) rfl)) ?_;refine uW (vs:=[_,_]) (cs':=[_,_]) rfl rfl aC (hS.p 3) ?_;clear hS;intro w hS;refine uO 5 ?_;refine u1 0 (aa rfl cd) ?_;refine u1 0 (ag (cs:=[_,_]) rfl bj aC (by exact (hS.p 1).ab (xs:=[_,_]) rfl)) ?_;refine uF sx rfl (eD _ q ⟨(hS.p 2).rd,(hS.p 3).rd⟩ (by omega)) ?_;rintro e w ⟨rfl,hT⟩;replace hS:Sat _ _ _:=hS.ah hT;clear hT;generalize h65:(dN q.d)=bb;cases bb
      ·refine⟨_,rfl,?_⟩;refine u1 5 (aR rfl) ?_;refine u1 0 (ag (cs:=[_,_,_]) rfl iB bU (by exact (hS.p 1).ab (xs:=[_,_,_]) rfl)) ?_;intro a hA;refine gH (vss:=[[_,_,_]]) hA rfl rfl cW ki rfl rfl rfl (by simp) rfl hS ?_;clear hA a hS;intro A69 w hS;intro a hA;refine eP hA rfl rfl rfl cW ki rfl (hS.p 5) (hS.rd.src cW (by simp[Value.oneCell'])) (by omega) (by omega) ?_;clear hA a hS;intro A70 c70 w hc70 hS;refine uO 8 ?_;intro a hA;replace hA:=hA.kp [0,4,5,6] rfl;have hsk0:∀x∈((rs.map RL.d).drop i).take (j-i),x.cg={ data:=#[] }:=fun x hx=>(hsk x hx).trans h55
       have el:out.length+1=(out++[(⟨x0.cg,q⟩:RL)]).length:=by simp
       have hS2:=jK hS el (cs':=(out++[(⟨x0.cg,q⟩:RL)]).flatMap j8) (by rw[List.flatMap_append];rfl);have hS3:=hU x0.cg q ((((hS2.p 2).p 6).p 6).p 6);rw[el]at hA;have hF2:=vG hF1 hij hsk0 (by rw[←hq];exact h65);rw[←hq,←h55]at hF2;refine⟨rs.length-j,by omega,j,out++[(⟨x0.cg,q⟩:RL)],A70,c70,q,hA,vM ((hS3.p 2).p 2),hj,?_,by simp;omega,fun x hx=>(by rcases List.mem_append.1 hx with hx | hx;exact hsm x hx;simp at hx;subst hx;exact⟨by dsimp only;omega,by dsimp only;omega,fun _=>(by dsimp only;omega)⟩),?_,by omega,rfl⟩
       ·rw[List.map_append];exact hF2
       ·exact .inr ⟨_,List.mem_append_right _ (List.mem_singleton.2 rfl),rfl⟩
      ·refine⟨_,rfl,?_⟩;refine u1 10 (aR rfl) ?_;intro a hA;replace hA:=hA.kp [0,4,5,6] rfl;have hsk0:∀x∈((rs.map RL.d).drop i).take (j-i),x.cg={ data:=#[] }:=fun x hx=>(hsk x hx).trans h55
       rw[hq]at h65;have hqe:q.d=⟨[],[]⟩:=by rw[hq];exact qE h65
       have hF2:=sL hF1 hij hsk0 h65;rw[←hq]at hF2;exact⟨rs.length-j,by omega,j,out,Ao,co,q,hA,vM (((hS.p 5).p 5).p 2),hj,hF2,by omega,hsm,.inl hqe,by rw[hqe];simp,rfl⟩
     ·intro h55;refine uO 4 ?_;refine u1 0 (aa rfl cd) ?_;refine u1 0 (ag (cs:=[_,_]) rfl bj aC (by exact hS.ab (xs:=[_,_]) rfl)) ?_;refine u1 0 (ag (cs:=[_,_]) rfl bj aC (by exact (hS.p 3).ab (xs:=[_,_]) rfl)) ?_;refine uF Cr rfl (nj _ q al ⟨(hS.p 1).rd,(hS.p 2).rd⟩ (CQ hal (hS.p 5)) (by omega) (by omega)) ?_;rintro e w ⟨z,rfl,hz,hT⟩;replace hS:Sat _ _ (_::_::_):=hS.ah hT;clear hT;have hzv:=(qK q.d al.d).len;rw[←hz]at hzv;have hzl:=r5 q.d al.d;rw[←hz]at hzl;refine⟨_,rfl,?_⟩;refine u1 0 (aa rfl cd) ?_;refine uW (vs:=[_,_]) (cs':=[_,_,_]) rfl rfl aC (hS.p 2) ?_;clear hS;intro w hS;refine uO 5 ?_;refine u1 0 (aa rfl cd) ?_;refine u1 0 (ag (cs:=[_,_]) rfl bj aC (by exact hS.ab (xs:=[_,_]) rfl)) ?_
      refine uF sx rfl (eD _ z ⟨(hS.p 1).rd,(hS.p 2).rd⟩ (by omega)) ?_;rintro e w ⟨rfl,hT⟩;replace hS:Sat _ _ _:=hS.ah hT;clear hT;generalize h65:(dN z.d)=bb;cases bb
      ·refine⟨_,rfl,?_⟩;refine u1 5 (aR rfl) ?_;refine u1 0 (ag (cs:=[_,_,_]) rfl iB bU (by exact hS.ab (xs:=[_,_,_]) rfl)) ?_;intro a hA;refine gH (vss:=[[_,_,_]]) hA rfl rfl cW ki rfl rfl rfl (by simp) rfl hS ?_;clear hA a hS;intro A69 w hS;intro a hA;refine eP hA rfl rfl rfl cW ki rfl (hS.p 7) (hS.rd.src cW (by simp[Value.oneCell'])) (by omega) (by omega) ?_;clear hA a hS;intro A70 c70 w hc70 hS;refine uO 8 ?_;intro a hA;replace hA:=hA.kp [0,4,5,6] rfl;have el:out.length+1=(out++[(⟨x0.cg,z⟩:RL)]).length:=by simp
       have hS2:=jK hS el (cs':=(out++[(⟨x0.cg,z⟩:RL)]).flatMap j8) (by rw[List.flatMap_append];rfl);have hS3:=hU x0.cg z ((((hS2.p 7).p 8).p 6).p 6);rw[el]at hA;have hF2:=vw (s:=x0.cg) hF1 hij h55 hsk;rw[←hq,←hz]at hF2;refine⟨rs.length-j,by omega,j,out++[(⟨x0.cg,z⟩:RL)],A70,c70,al,hA,vM ((hS3.p 2).p 2),hj,?_,by simp;omega,fun x hx=>(by rcases List.mem_append.1 hx with hx | hx;exact hsm x hx;simp at hx;subst hx;exact⟨by dsimp only;omega,by dsimp only;omega,fun h=>absurd h h55⟩),?_,by omega,rfl⟩
       ·rw[List.map_append];exact hF2
       ·rcases hal with h | ⟨x,hx,h⟩
        ·exact .inl h
        ·exact .inr ⟨x,List.mem_append_left _ hx,h⟩
      ·refine⟨_,rfl,?_⟩;refine u1 10 (aR rfl) ?_;intro a hA;replace hA:=hA.kp [0,4,5,6] rfl;rw[hz,hq]at h65;have hF2:=se hF1 hij hsk h65 h55;exact⟨rs.length-j,by omega,j,out,Ao,co,al,hA,vM (((hS.p 7).p 7).p 7),hj,hF2,by omega,hsm,hal,hac,rfl⟩
  ·clear hA a;intro h21;have hjlt:i<j:=(by omega);have hEp:∀p∈ps,p.ok W:=fun p hp=>(by rw[hps]at hp;obtain⟨x,hx,rfl⟩:=List.mem_map.1 hp;exact hE x (List.mem_of_mem_drop (List.mem_of_mem_take hx)))
   have hsp:cm (ps.map PL.d)≤16777216:=(by rw[hps,List.map_map];refine Nat.le_trans ?_ hs;rw[List.map_take,List.map_drop];exact ur _ _ _);have hpl:ps.length≤rs.length:=(by rw[hps];simp;omega);refine uQ 13 ?_;intro a hA;refine wpQuiet_nil ?_;clear hS;intro w hS;refine rE 7 hA ?_;clear hA a;intro a hA;refine iD (fun a w=>∃(b9:Nat) (q:PL),Ag a 89 [(0,.slice (some A_p) (rs).length c),(4,.pointer (some ⟨b4,0,none⟩)),(5,.slice Ao (out).length co),(7,.int .i64 ((j:Nat):Int)),(9,.pointer (some ⟨b9,0,none⟩))]∧Sat W w ([aS b9 (.cells #[.string x0.cg,.slice q.va q.d.vec.length q.vc,.slice q.ca q.d.ad.length q.cc] 206),ej 3 q.va q.vc q.d.vec,bG 219 q.ca q.cc q.d.ad,aS b4 (.cells #[.slice al.va al.d.vec.length al.vc,.slice al.ca al.d.ad.length al.cc] 63),o0 206 Ao co out,ek 3 219 out])∧(q.d=(fu (ps.map PL.d)))) ?_ ?_
   ·refine bB [9] hS (by kernel_rfl) ?_;replace hS:=hS.drew;refine rX [0,1] hA ?_;clear hA a;refine bF 2 [] rfl (fun w=>(an rfl rfl cW bU (by omega) (by omega))) ?_;refine bF 3 [] rfl (fun w=>(aJ rfl dk)) ?_;refine dH 4 [5] rfl (by exact⟨[],hS⟩) (fun w hT=>have hS:=hT.sat;(av rfl rZ (bS (hR.sat hS) (dy hx0 0 _ rfl)))) ?_;intro a hA;refine kN 6 8 (by kernel_rfl) ?_ ?_
    ·refine eF hA rfl rfl xH rfl (iU _ Ap cp ps (by exact hS.rd) (fun p hp=>(hEp p hp).sat hS) (by omega) (by omega)) ?_;clear hA a;rintro e w ⟨q,rfl,hq,hT⟩;replace hS:Sat _ _ (_::_::_):=hS.ah hT;clear hT;refine⟨_,rfl,?_⟩;intro a hA;refine⟨.inr fun _=>(by exact⟨[_,_],hS⟩),?_⟩;refine P1 7 [] hA rfl (fun w=>(ax hA rfl gY)) ?_;clear hA a;intro a hA;refine aG 8 (by kernel_rfl) ?_;refine eN hA rfl rfl nH hS ?_;clear hA a hS;intro b9 w hS;intro a hA;refine⟨.inr fun _=>(by exact⟨[_,_,_],hS⟩),?_⟩;refine aG 9 (by kernel_rfl) ?_;refine cK (vs:=[_,_,_]) (cs':=[_,_,_]) hA rfl rfl rfl bU (by simp[Value.oneCell']) hS rfl rfl ?_;clear hS;intro w hS;refine⟨.inl rfl,?_⟩;refine ai (by kernel_rfl) ?_ _;replace hA:=hA.kp [0,4,5,7,9] rfl
     first
      | exact⟨b9,q,hA,((((((hS.p 6).p 6).p 6).p 5).p 5).p 5).cA [_,_,_,_,_,_],(by exact hq)⟩
    ·refine eN hA rfl rfl nH hS ?_;clear hA a hS;intro b9 w hS;intro a hA;refine⟨.inr fun _=>(by exact⟨[_],hS⟩),?_⟩;refine aG 6 (by kernel_rfl) ?_;refine eF hA rfl rfl xH rfl (iU _ Ap cp ps (by exact (hS.p 1).rd) (fun p hp=>(hEp p hp).sat hS) (by omega) (by omega)) ?_;clear hA a;rintro e w ⟨q,rfl,hq,hT⟩;replace hS:Sat _ _ (_::_::_):=hS.ah hT;clear hT;refine⟨_,rfl,?_⟩;intro a hA;refine⟨.inr fun _=>(by exact⟨[_,_,_],hS⟩),?_⟩;refine P1 7 [] hA rfl (fun w=>(ax hA rfl gY)) ?_;clear hA a;intro a hA;refine aG 9 (by kernel_rfl) ?_;refine cK (vs:=[_,_,_]) (cs':=[_,_,_]) hA rfl rfl rfl bU (by simp[Value.oneCell']) (hS.p 2) rfl rfl ?_;clear hS;intro w hS;refine⟨.inl rfl,?_⟩;refine ai (by kernel_rfl) ?_ _;replace hA:=hA.kp [0,4,5,7,9] rfl
     first
      | exact⟨b9,q,hA,((((((hS.p 6).p 6).p 6).p 5).p 5).p 5).cA [_,_,_,_,_,_],(by exact hq)⟩
   ·intro a w hI;clear hS hA;obtain⟨b9,q,hA,hS,hq⟩:=hI;have hgp:ps.map PL.d=(((rs.drop i).take (j-i)).map RL.d).map br.a8:=by rw[hps];simp[List.map_map,Function.comp_def,RL.d]
    have hqc:=ub (ps.map PL.d);rw[←hq]at hqc;have hqv:=hqc.len;have hql:=vC (ps.map PL.d);rw[←hq]at hql;have hgl:(((rs.drop i).take (j-i)).map RL.d)=((rs.map RL.d).drop i).take (j-i):=by rw[List.map_take,List.map_drop]
    rw[hgp,hgl]at hq;rw[hgl]at hsk;refine rC 3 hA ?_;clear hA a;refine u1 0 (aa rfl dk) ?_;refine u1 0 (ld rfl rZ) ?_;refine ba 0 0 (kI rfl rfl) ?_ ?_
    ·intro h55;refine uO 4 ?_;refine u1 0 (aa rfl cd) ?_;refine u1 0 (ag (cs:=[_,_]) rfl bj aC (by exact hS.ab (xs:=[_,_]) rfl)) ?_;refine uW (vs:=[_,_]) (cs':=[_,_]) rfl rfl aC (hS.p 3) ?_;clear hS;intro w hS;refine uO 5 ?_;refine u1 0 (aa rfl cd) ?_;refine u1 0 (ag (cs:=[_,_]) rfl bj aC (by exact (hS.p 1).ab (xs:=[_,_]) rfl)) ?_;refine uF sx rfl (eD _ q ⟨(hS.p 2).rd,(hS.p 3).rd⟩ (by omega)) ?_;rintro e w ⟨rfl,hT⟩;replace hS:Sat _ _ _:=hS.ah hT;clear hT;generalize h65:(dN q.d)=bb;cases bb
     ·refine⟨_,rfl,?_⟩;refine u1 5 (aR rfl) ?_;refine u1 0 (ag (cs:=[_,_,_]) rfl iB bU (by exact (hS.p 1).ab (xs:=[_,_,_]) rfl)) ?_;intro a hA;refine gH (vss:=[[_,_,_]]) hA rfl rfl cW ki rfl rfl rfl (by simp) rfl hS ?_;clear hA a hS;intro A69 w hS;intro a hA;refine eP hA rfl rfl rfl cW ki rfl (hS.p 5) (hS.rd.src cW (by simp[Value.oneCell'])) (by omega) (by omega) ?_;clear hA a hS;intro A70 c70 w hc70 hS;refine uO 8 ?_;intro a hA;replace hA:=hA.kp [0,4,5,6] rfl;have hsk0:∀x∈((rs.map RL.d).drop i).take (j-i),x.cg={ data:=#[] }:=fun x hx=>(hsk x hx).trans h55
      have el:out.length+1=(out++[(⟨x0.cg,q⟩:RL)]).length:=by simp
      have hS2:=jK hS el (cs':=(out++[(⟨x0.cg,q⟩:RL)]).flatMap j8) (by rw[List.flatMap_append];rfl);have hS3:=hU x0.cg q ((((hS2.p 2).p 6).p 6).p 6);rw[el]at hA;have hF2:=vG hF1 hij hsk0 (by rw[←hq];exact h65);rw[←hq,←h55]at hF2;refine⟨rs.length-j,by omega,j,out++[(⟨x0.cg,q⟩:RL)],A70,c70,q,hA,vM ((hS3.p 2).p 2),hj,?_,by simp;omega,fun x hx=>(by rcases List.mem_append.1 hx with hx | hx;exact hsm x hx;simp at hx;subst hx;exact⟨by dsimp only;omega,by dsimp only;omega,fun _=>(by dsimp only;omega)⟩),?_,by omega,rfl⟩
      ·rw[List.map_append];exact hF2
      ·exact .inr ⟨_,List.mem_append_right _ (List.mem_singleton.2 rfl),rfl⟩
     ·refine⟨_,rfl,?_⟩;refine u1 10 (aR rfl) ?_;intro a hA;replace hA:=hA.kp [0,4,5,6] rfl;have hsk0:∀x∈((rs.map RL.d).drop i).take (j-i),x.cg={ data:=#[] }:=fun x hx=>(hsk x hx).trans h55
      rw[hq]at h65;have hqe:q.d=⟨[],[]⟩:=by rw[hq];exact qE h65
      have hF2:=sL hF1 hij hsk0 h65;rw[←hq]at hF2;exact⟨rs.length-j,by omega,j,out,Ao,co,q,hA,vM (((hS.p 5).p 5).p 2),hj,hF2,by omega,hsm,.inl hqe,by rw[hqe];simp,rfl⟩
    ·intro h55;refine uO 4 ?_;refine u1 0 (aa rfl cd) ?_;refine u1 0 (ag (cs:=[_,_]) rfl bj aC (by exact hS.ab (xs:=[_,_]) rfl)) ?_;refine u1 0 (ag (cs:=[_,_]) rfl bj aC (by exact (hS.p 3).ab (xs:=[_,_]) rfl)) ?_;refine uF Cr rfl (nj _ q al ⟨(hS.p 1).rd,(hS.p 2).rd⟩ (CQ hal (hS.p 5)) (by omega) (by omega)) ?_;rintro e w ⟨z,rfl,hz,hT⟩;replace hS:Sat _ _ (_::_::_):=hS.ah hT;clear hT;have hzv:=(qK q.d al.d).len;rw[←hz]at hzv;have hzl:=r5 q.d al.d;rw[←hz]at hzl;refine⟨_,rfl,?_⟩;refine u1 0 (aa rfl cd) ?_;refine uW (vs:=[_,_]) (cs':=[_,_,_]) rfl rfl aC (hS.p 2) ?_;clear hS;intro w hS;refine uO 5 ?_;refine u1 0 (aa rfl cd) ?_;refine u1 0 (ag (cs:=[_,_]) rfl bj aC (by exact hS.ab (xs:=[_,_]) rfl)) ?_
     refine uF sx rfl (eD _ z ⟨(hS.p 1).rd,(hS.p 2).rd⟩ (by omega)) ?_;rintro e w ⟨rfl,hT⟩;replace hS:Sat _ _ _:=hS.ah hT;clear hT;generalize h65:(dN z.d)=bb;cases bb
     ·refine⟨_,rfl,?_⟩;refine u1 5 (aR rfl) ?_;refine u1 0 (ag (cs:=[_,_,_]) rfl iB bU (by exact hS.ab (xs:=[_,_,_]) rfl)) ?_;intro a hA;refine gH (vss:=[[_,_,_]]) hA rfl rfl cW ki rfl rfl rfl (by simp) rfl hS ?_;clear hA a hS;intro A69 w hS;intro a hA;refine eP hA rfl rfl rfl cW ki rfl (hS.p 7) (hS.rd.src cW (by simp[Value.oneCell'])) (by omega) (by omega) ?_;clear hA a hS;intro A70 c70 w hc70 hS;refine uO 8 ?_;intro a hA;replace hA:=hA.kp [0,4,5,6] rfl;have el:out.length+1=(out++[(⟨x0.cg,z⟩:RL)]).length:=by simp
      have hS2:=jK hS el (cs':=(out++[(⟨x0.cg,z⟩:RL)]).flatMap j8) (by rw[List.flatMap_append];rfl);have hS3:=hU x0.cg z ((((hS2.p 7).p 8).p 6).p 6);rw[el]at hA;have hF2:=vw (s:=x0.cg) hF1 hij h55 hsk;rw[←hq,←hz]at hF2;refine⟨rs.length-j,by omega,j,out++[(⟨x0.cg,z⟩:RL)],A70,c70,al,hA,vM ((hS3.p 2).p 2),hj,?_,by simp;omega,fun x hx=>(by rcases List.mem_append.1 hx with hx | hx;exact hsm x hx;simp at hx;subst hx;exact⟨by dsimp only;omega,by dsimp only;omega,fun h=>absurd h h55⟩),?_,by omega,rfl⟩
      ·rw[List.map_append];exact hF2
      ·rcases hal with h | ⟨x,hx,h⟩
       ·exact .inl h
       ·exact .inr ⟨x,List.mem_append_left _ hx,h⟩
     ·refine⟨_,rfl,?_⟩;refine u1 10 (aR rfl) ?_;intro a hA;replace hA:=hA.kp [0,4,5,6] rfl;rw[hz,hq]at h65;have hF2:=se hF1 hij hsk h65 h55;exact⟨rs.length-j,by omega,j,out,Ao,co,al,hA,vM (((hS.p 7).p 7).p 7),hj,hF2,by omega,hsm,hal,hac,rfl⟩
 ·intro h16;obtain rfl:i=rs.length:=by omega
  intro a hA;rw[show rs.length=(rs.map RL.d).length from by simp]at hF1;have hcov:=hF1.DM;rw[List.take_length]at hcov;refine rO 8 hA ?_;clear hA a;intro a hA;replace hA:=hA.kp [5] rfl;refine rC 4 hA ?_;clear hA a;refine u1 0 (au rfl cW) ?_;refine ba 0 0 (dW rfl rfl) ?_ ?_
  ·intro h74;refine uO 2 ?_;obtain⟨Ao_p,rfl⟩:∃q,Ao=some q:=(hS.p 1).rd.aw (by omega);obtain⟨x1,hx1⟩:∃zz_,out[0]?=some zz_:=⟨_,List.getElem?_eq_getElem (by omega)⟩;refine u1 0 (an rfl rfl cW bU (by omega) (by omega)) ?_;refine u1 0 (aJ rfl dk) ?_;refine u1 0 (av rfl rZ (bS (hS.p 1).rd (dy hx1 0 _ rfl))) ?_;refine ba 0 0 (kI rfl rfl) ?_ ?_
   ·intro h80;refine uO 7 ?_;refine u1 0 (an rfl rfl cW bU (by omega) (by omega)) ?_;refine u1 0 (ag (cs:=j8 x1) rfl iB bU (fun j u e=>bS (hS.p 1).rd (dy hx1 j u e))) ?_;refine uF Cb rfl (nW _ x1 (qo (hS.p 2) x1 (List.mem_of_getElem? hx1)) (by have:=hsm x1 (List.mem_of_getElem? hx1);omega)) ?_;rintro e w ⟨q,rfl,hq,hT⟩;replace hS:Sat _ _ (_::_::_):=hS.ah hT;clear hT;refine⟨_,rfl,?_⟩;refine u1 0 (an rfl rfl cW bU (by omega) (by omega)) ?_;intro a hA;refine CN (0 * 3) (vs:=[_,_,_]) hA rfl rfl rfl bU (by simp[Value.oneCell']) (hS.p 3) (by rw[kS qw];simp;omega) ?_;clear hS;intro w hS;refine rO 10 hA ?_;clear hA a;refine gT ?_;have hx1m:=List.mem_of_getElem? hx1;obtain⟨hx1s,_,hx1t⟩:=hsm x1 hx1m;have hx1u:=hx1t h80;have hS2:=jK hS rfl (qC qw (xs:=out) (i:=0) (⟨x1.cg,q⟩:RL) (by omega))
    have hS3:=AI x1.cg q hx1 (((hS2.p 4).p 3).p 3);have hql:=lj x1.p.d;rw[←hq]at hql;have hqv:=(jr x1.p.d).len;rw[←hq]at hqv;refine⟨⟨some Ao_p,co,out.set 0 ⟨x1.cg,q⟩⟩,by simp,fun e2=>?_,?_,?_,jv (nK (jK (hS3.p 1) (by simp) rfl))⟩
    ·show bh ((out.set 0 ⟨x1.cg,q⟩).map RL.d) e2=_;rw[BT hx1 hq];exact hcov e2
    ·intro x hx;rcases List.mem_or_eq_of_mem_set hx with hx | rfl
     ·have:=hsm x hx;omega
     ·exact⟨by dsimp only;omega,by dsimp only;omega⟩
    ·show (out.set 0 ⟨x1.cg,q⟩).length≤_;rw[List.length_set];omega
   ·intro h80;refine uO 14 ?_;refine gT ?_;refine⟨⟨some Ao_p,co,out⟩,rfl,fun e2=>?_,?_,?_,jv (nK ((hS.p 2).p 2))⟩
    ·show bh (out.map RL.d) e2=_;exact hcov e2
    ·intro x hx;have:=hsm x hx;omega
    ·show out.length≤_;omega
  ·intro h74;refine uO 20 ?_;refine gT ?_;refine⟨⟨Ao,co,out⟩,rfl,fun e2=>?_,?_,?_,jv (nK ((hS.p 2).p 2))⟩
   ·show bh (out.map RL.d) e2=_;exact hcov e2
   ·intro x hx;have:=hsm x hx;omega
   ·show out.length≤_;omega
theorem u4 (W:World)(B:Option Addr)(d:Nat)(xs:List aM)(A:Option Addr)(c:Nat)(rs:List RL)(hX:iz W B d xs)(hlx:xs.length≤1000000000000)(hEx:cO xs=true)(hR:gz W A c rs)(hE:∀r∈rs,r.p.ok W)(hB:du 10000000000 rs)(hl:rs.length≤1000000000000)(hs:cm (rs.map fun r=>r.p.d)≤16777216)(hF:df (rs.map RL.d)=true):Calls Tryz.prog 346 #[.slice B (xs).length d,.slice A (rs).length c] W fun e w'=>∃A' c',e=.returned (.tuple #[.slice A' (xs.filter (fun e2=>!bh (rs.map RL.d) e2)).length c',.int .i64 0])∧Sat W w' [fN 216 A' c' (xs.filter (fun e2=>!bh (rs.map RL.d) e2))]:=by
 refine enter Tryz.func346 rfl rfl rfl (.cons (i:=0) rfl (.cons (i:=1) rfl .nil)) ?_;have hS:=Sat.start W;refine uC 10 ?_;refine uF sl rfl (eJ _ B d xs (hX.sat hS) hlx) ?_;rintro e w ⟨rfl,hT⟩;rw[if_pos hEx];replace hS:Sat _ _ _:=hS.ah hT;clear hT;refine⟨_,rfl,?_⟩;refine u1 2 (cV (aD rfl rfl) (by omega)) ?_;intro a hA;refine eZ hA (ar hA rfl rfl rfl) rfl qc rfl (dM _ A c rs (hR.sat hS) (fun r h=>(hE r h).sat hS) hB hl) ?_;clear hA a;rintro e w ⟨rfl,hT⟩;rw[if_pos hF];replace hS:Sat _ _ _:=hS.ah hT;clear hT;refine⟨_,rfl,?_⟩;refine u1 9 (cV (aD rfl rfl) (by omega)) ?_;refine uF Fp rfl (wE _ A c rs (hR.sat hS) (fun r h=>(hE r h).sat hS) hB hl hs hF) ?_;rintro e w ⟨q,rfl,hqc,hqs,hql,hT⟩;replace hS:=hS.ay hT;clear hT;refine⟨_,rfl,?_⟩
 refine uO 1 ?_;refine u1 0 (ak rfl rfl) ?_;refine u1 13 (ak rfl rfl) ?_;refine u1 3 (au rfl bz) ?_;intro a hA;replace hA:=hA.kp [4,5,6,8,24,25,26] rfl;refine rC 1 hA ?_;clear hA a;intro a hA;refine wp_loop_ghost (fun (mm:Nat) a w=>∃(i:Nat) (out:List aM) (Ao:Option Addr) (co:Nat),Ag a 40 [(6,.slice q.a q.rs.length q.c),(8,.slice Ao (out).length co),(24,.slice B (xs).length d),(25,.int .i64 ((xs.length:Nat):Int)),(26,.int .i64 ((i:Nat):Int))]∧Sat W w ([fN 216 Ao co out,q.ch 206 3 219])∧(i≤xs.length)∧(out=(xs.take i).filter (fun e2=>!bh (rs.map RL.d) e2))∧(out.length≤i)∧mm=xs.length-i) xs.length ?_ ?_
 ·replace hA:=hA.kp [6,8,24,25,26] rfl;exact⟨0,[],none,0,hA,(hS.bp 216 4),(by omega),(by rfl),(by simp),by omega⟩
 intro m a w hI;clear hS hA;obtain⟨i,out,Ao,co,hA,hS,hi,ho,hol,rfl⟩:=hI;refine rC 2 hA ?_;clear hA a;refine ba 0 0 (aA rfl rfl) ?_ ?_
 ·intro h27;refine uO 10 ?_;obtain⟨B_p,rfl⟩:∃q,B=some q:=(hX.sat hS).aw (by omega);obtain⟨x,hx⟩:∃zz_,xs[i]?=some zz_:=⟨_,List.getElem?_eq_getElem (by omega)⟩;refine u1 0 (an rfl rfl bz fg (by omega) (by omega)) ?_;refine u1 0 (ag (cs:=mH x) rfl lX fg (fun j u e=>bS (hX.sat hS) (j1 hx j u e))) ?_;refine uN xx hS ?_;clear hS;intro b10 w hS;refine uW (vs:=[_,_,_,_]) (cs':=[_,_,_,_]) rfl rfl fg hS ?_;clear hS;intro w hS;refine uO 5 ?_;refine u1 0 (ag (cs:=[_,_,_,_]) rfl lX fg (by exact hS.ab (xs:=[_,_,_,_]) rfl)) ?_;intro a hA;refine wx hA rfl FC rfl (vV _ q.a q.c q.rs x (jq.qR (hS.p 2)).top (fun r h=>(jq.qR (hS.p 2)).each r h) hqs hql) ?_;clear hA a;rintro e w ⟨rfl,hT⟩;replace hS:Sat _ _ _:=hS.ah hT;clear hT;refine⟨_,rfl,?_⟩;refine ba 0 0 (bN rfl rfl) ?_ ?_
  ·intro h33;refine uO 5 ?_;refine u1 0 (ag (cs:=[_,_,_,_]) rfl lX fg (by exact hS.ab (xs:=[_,_,_,_]) rfl)) ?_;intro a hA;refine gH (vss:=[[_,_,_,_]]) hA rfl rfl bz fL rfl rfl rfl (by simp) rfl hS ?_;clear hA a hS;intro A36 w hS;intro a hA;refine eP hA rfl rfl rfl bz fL rfl (hS.p 2) (hS.rd.src bz (by simp[Value.oneCell'])) (by omega) (by omega) ?_;clear hA a hS;intro A37 c37 w hc37 hS;refine uO 5 ?_;refine u1 2 (aj rfl rfl (by omega) (by omega)) ?_;intro a hA;replace hA:=hA.kp [6,8,24,25,26] rfl;have ef:=ft (p:=fun e2=>!bh (rs.map RL.d) e2) hx;have hqx:bh (q.rs.map RL.d) x=bh (rs.map RL.d) x:=hqc x;rw[if_pos (by rw[←hqx,Bool.not_eq_true'];exact pR.1 (by omega))]at ef;have el:out.length+1=(out++[x]).length:=by simp
   have hS2:=jK hS el (cs':=(out++[x]).flatMap mH) (by rw[List.flatMap_append];rfl);rw[el]at hA;exact⟨xs.length-(i+1),by omega,i+1,out++[x],A37,c37,hA,rH ((hS2.p 3).p 1),by omega,by rw[ho,ef],by simp;omega,rfl⟩
  ·intro h33;refine uO 7 ?_;refine u1 2 (aj rfl rfl (by omega) (by omega)) ?_;intro a hA;replace hA:=hA.kp [6,8,24,25,26] rfl;have ef:=ft (p:=fun e2=>!bh (rs.map RL.d) e2) hx;have hqx:bh (q.rs.map RL.d) x=bh (rs.map RL.d) x:=hqc x;rw[if_neg (by rw[←hqx];intro h;rw[Bool.not_eq_true']at h;exact h33 (by rw[pR.2 h];rfl)),List.append_nil]at ef;exact⟨xs.length-(i+1),by omega,i+1,out,Ao,co,hA,hS.drop,by omega,by rw[ef];exact ho,by omega,rfl⟩
 ·intro h27;refine uO 17 ?_;refine gT ?_;obtain rfl:i=xs.length:=by omega
  rw[List.take_length]at ho;subst ho;exact⟨_,_,rfl,jv hS⟩
end Go.Proofs.YtkjabaihpkbfhaaGreat.Wk
namespace Go.Proofs.YtkjabaihpkbfhaaGreat.Wk
open Go Go.RowKit Go.Proofs.YtkjabaihpkbfhaaGreat Go.Proofs.YtkjabaihpkbfhaaGreat.K
def aK (s:gP):Bool:=cO s.jd && (bK s.a8 && df s.ky)
def bL (s:gP):Bool:=aK s && (c4 (kL (s.jd.map aM.dot)) s.a8 && ((s.ky.all fun r=>!c4 r.a8 s.a8) && (s.jd.all fun e=>!bh s.ky e)))
structure kK (s:SL):Prop where
 es:s.e.es.length≤16777216
 pv:s.p.d.vec.length≤1000000000000
 pc:s.p.d.ad.length≤16777216
 rv:∀r∈s.r.rs,r.p.d.vec.length≤1000000000000
 rs:cm (s.r.rs.map fun r=>r.p.d)≤16777216
theorem pM {ps:List aB}{p:aB}(h:p∈ps):p.ad.length+1≤cm ps:=by
 induction ps with
 | nil=>cases h
 | cons q ps ih =>
   unfold cm at *;rw[List.map_cons,List.sum_cons];rcases List.mem_cons.1 h with rfl | h
   ·
    omega
   ·
    have:=ih h;omega
theorem ic {rs:List RL}{n:Nat}(hv:∀r∈rs,r.p.d.vec.length≤1000000000000)(hs:cm (rs.map fun r=>r.p.d)≤n):du n rs:=fun r hr=>⟨hv r hr,by have:=pM (List.mem_map.2 ⟨r,hr,rfl⟩:r.p.d∈rs.map fun r=>r.p.d);omega⟩
theorem du.mono {m n:Nat}{rs:List RL}(h:du m rs)(hm:m≤n):du n rs:=fun r hr=>⟨(h r hr).1,Nat.le_trans (h r hr).2 hm⟩
theorem mE {rs:List RL}{n:Nat}(hs:cm (rs.map fun r=>r.p.d)≤n):rs.length≤n:=by
 have:=nQ (rs.map fun r=>r.p.d);rw[List.length_map]at this;omega
theorem all_filter {α:Type}(p:α→Bool):∀l:List α,((l.filter p).length=l.length)↔l.all p=true:=fun l=>by
 rw[List.all_eq_true];exact List.length_filter_eq_length_iff
theorem zx (xs:List aM):(kL (xs.map aM.dot)).ad.length≤16 * (xs.length+1):=by
 have:=lj ⟨[],(xs.map aM.dot).map fun d=>⟨d.rep,d.num,d.num⟩⟩;unfold kL;simpa using this
theorem AH (xs:List aM):(kL (xs.map aM.dot)).vec.length≤16:=(jr _).len
theorem Dm {x y:RL}(h1:x.cg=y.cg)(h2:x.p.d=y.p.d):x.d=y.d:=by unfold RL.d;rw[h1,h2]
theorem zo {a b:gP}(h1:a.jd=b.jd)(h2:a.a8=b.a8)(h3:a.ky=b.ky):a=b:=by cases a;cases b;simp only at h1 h2 h3;subst h1 h2 h3;rfl
end Go.Proofs.YtkjabaihpkbfhaaGreat.Wk
namespace Go.Proofs.YtkjabaihpkbfhaaGreat.Wk
open Go Go.RowKit Go.Proofs.YtkjabaihpkbfhaaGreat Go.Proofs.YtkjabaihpkbfhaaGreat.K Go.Proofs.YtkjabaihpkbfhaaGreat.T
theorem nL (W:World)(s:SL)(hp:s.ok W)(hs:kK s):Calls Tryz.prog 433 #[.agg #[.slice s.e.a s.e.es.length s.e.c,.slice s.p.va s.p.d.vec.length s.p.vc,.slice s.p.ca s.p.d.ad.length s.p.cc,.slice s.r.a s.r.rs.length s.r.c]] W fun e w'=>e=.returned (.int .i64 (if aK s.d=true then 0 else 1))∧Sat W w' []:=by
 refine enter Tryz.func433 rfl rfl rfl (.cons (i:=0) rfl .nil) ?_;have hS:=Sat.start W;obtain⟨⟨ea,ec,es⟩,p,⟨ra,rc,rs⟩⟩:=s;have he:iz W ea ec es:=hp.e;have hpp:p.ok W:=hp.p;have hrt:gz W ra rc rs:=hp.r.top;have hre:∀r∈rs,r.p.ok W:=hp.r.each;have hel:es.length≤16777216:=hs.es;have hpv:p.d.vec.length≤1000000000000:=hs.pv;have hpc:p.d.ad.length≤16777216:=hs.pc;have hrs:cm (rs.map fun r=>r.p.d)≤16777216:=hs.rs;have hrb:du 10000000000 rs:=(ic hs.rv hrs).mono (by decide);have hrl:=mE hrs;refine uC 2 ?_;refine uB rfl hS ?_;clear hS;intro b1 w hS;refine uO 6 ?_;refine u1 0 (aa rfl s4) ?_;refine u1 0 (ld rfl nb) ?_;refine uF sl rfl (eJ _ ea ec es (he.sat hS) (by omega)) ?_;rintro e w ⟨rfl,hT⟩;replace hS:Sat _ _ _:=hS.ah hT;clear hT;refine⟨_,rfl,?_⟩;refine ba 0 0 (aD rfl rfl) ?_ ?_
 ·intro h6;refine uO 22 ?_;refine bt ?_;refine⟨?_,hS.nil⟩;unfold aK SL.d jq.d;dsimp only;rw[show cO es=false from by simpa using h6];rfl
 ·intro h6;refine uO 1 ?_;refine u1 0 (aa rfl tH) ?_;refine u1 0 (ag (cs:=[_,_]) rfl bj aC (by exact hS.ab (xs:=[_,_]) rfl)) ?_;intro a hA;refine eZ hA (ar hA rfl rfl rfl) rfl re rfl (dJ _ p (hpp.sat hS) (by omega) hpv) ?_;clear hA a;rintro e w ⟨rfl,hT⟩;replace hS:Sat _ _ _:=hS.ah hT;clear hT;generalize h10:(bK p.d)=bb;cases bb
  ·refine⟨_,rfl,?_⟩;refine u1 17 (aR rfl) ?_;refine bt ?_;refine⟨?_,hS.nil⟩;unfold aK SL.d jq.d;dsimp only;rw[show cO es=true from by simpa using h6,h10];rfl
  ·refine⟨_,rfl,?_⟩;refine u1 2 (aR rfl) ?_;refine u1 0 (aa rfl tJ) ?_;refine u1 0 (ld rfl nU) ?_;intro a hA;refine eZ hA (ar hA rfl rfl rfl) rfl qc rfl (dM _ ra rc rs (hrt.sat hS) (fun r h=>(hre r h).sat hS) hrb (by omega)) ?_;clear hA a;rintro e w ⟨rfl,hT⟩;replace hS:Sat _ _ _:=hS.ah hT;clear hT;refine⟨_,rfl,?_⟩;refine ba 0 0 (aD rfl rfl) ?_ ?_
   ·intro h17;refine uO 11 ?_;refine bt ?_;refine⟨?_,hS.nil⟩;unfold aK SL.d jq.d;dsimp only;rw[show cO es=true from by simpa using h6,h10,show df (rs.map RL.d)=false from by simpa using h17];rfl
   ·intro h17;refine uO 12 ?_;refine bt ?_;refine⟨?_,hS.nil⟩;unfold aK SL.d jq.d;dsimp only;rw[show cO es=true from by simpa using h6,h10,show df (rs.map RL.d)=true from by simpa using h17];rfl
end Go.Proofs.YtkjabaihpkbfhaaGreat.Wk
