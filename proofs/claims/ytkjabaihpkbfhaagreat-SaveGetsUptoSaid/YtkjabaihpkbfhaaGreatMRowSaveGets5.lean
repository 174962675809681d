/- Texts of our own that a row leans on, put together. No condition of their own. -/
import Derived.Test.YtkjabaihpkbfhaaGreatMRowSaveGets4
set_option linter.unusedVariables false
set_option linter.unusedSimpArgs false
set_option maxRecDepth 100000
set_option maxHeartbeats 2000000
namespace Go.Proofs.YtkjabaihpkbfhaaGreat.Wk
open Go Go.RowKit Go.Proofs.YtkjabaihpkbfhaaGreat Go.Proofs.YtkjabaihpkbfhaaGreat.K Go.Proofs.YtkjabaihpkbfhaaGreat.T
theorem oK (W w:World)(L:List As)(s:Nat)(A:Option Addr)(c:Nat)(bs:List UInt8)(at_:Nat)(bad:Bool)(O:Sat W w (a6 s (.cells #[.slice A bs.length c,.int .i64 (at_:Int),.bool bad] 352)::L))(hat:at_≤bs.length)(hb:bs.length≤1000000000)(hR:∀w,Sat W w L→Rd w 1 (.slice A bs.length c) bs.length (bs.map aj)):Calls Tryz.prog 241 #[.pointer (some ⟨s,0,none⟩)] w fun e w'=>∃(q:PL) (at':Nat) (b:Bool),e=.returned (.agg #[.slice q.va q.d.vec.length q.vc,.slice q.ca q.d.ab.length q.cc])∧Sat W w' (a6 s (.cells #[.slice A bs.length c,.int .i64 (at':Int),.bool b] 352)::cq 3 q.va q.vc q.d.vec::bp 219 q.ca q.cc q.d.ab::L)∧ym bs at_ bad q.d at' b:=by
 refine bS Tryz.func241 [0] ?_;refine uC 2 ?_;refine uN cY O ?_;clear O;intro b2 w O;refine uO 4 ?_;refine uN cY O ?_;clear O;intro b3 w O;refine uO 5 ?_;refine uF rfl (cP _ _ _ s A c bs at_ bad 16 (O.p 2) (by omega) (by omega) (fun w s=>hR w s.drop.drop) (by decide) (by decide)) ?_;clear O;rintro e w ⟨v14,a14,b14,rfl,O,hn14⟩;obtain⟨hl14,hv14⟩:=hn14.le;have hw14:=hn14.cQ (by omega);refine uO 3 ?_;intro a I;replace I:=I.kp [0,2,3,4] rfl
 refine dx (fun a w=>∃(i:Nat) (xs:List Int) (Av:Option Addr) (cv at1:Nat) (f1:Bool),Ag a 108 [(0,.pointer (some ⟨s,0,none⟩)),(2,.pointer (some ⟨b2,0,none⟩)),(3,.pointer (some ⟨b3,0,none⟩))]∧Sat W w (a6 s (.cells #[.slice A bs.length c,.int .i64 (at1:Int),.bool f1] 352)::a6 b3 (.cells #[.slice Av xs.length cv,.slice none 0 0] 63)::cq 3 Av cv xs::a6 b2 (.cells #[.slice none 0 0,.slice none 0 0] 63)::L)∧(i≤v14)∧(xs.length=i)∧(at1≤bs.length)∧(FX bs at_ bad f1 v14 i at1 xs)∧(∀v∈xs,0≤v∧v≤1000000000)∧(v14≤i∨f1=true)) ?_ ?_
 ·refine rC 6 I ?_;clear I a;intro a I;refine wp_loop_ghost (fun (mm:Nat) a w=>∃(i:Nat) (xs:List Int) (Av:Option Addr) (cv at1:Nat) (f1:Bool),Ag a 108 [(0,.pointer (some ⟨s,0,none⟩)),(2,.pointer (some ⟨b2,0,none⟩)),(3,.pointer (some ⟨b3,0,none⟩)),(4,.int .i64 ((v14:Nat):Int)),(5,.int .i64 ((i:Nat):Int))]∧Sat W w (a6 s (.cells #[.slice A bs.length c,.int .i64 (at1:Int),.bool f1] 352)::a6 b3 (.cells #[.slice Av xs.length cv,.slice none 0 0] 63)::cq 3 Av cv xs::a6 b2 (.cells #[.slice none 0 0,.slice none 0 0] 63)::L)∧(i≤v14)∧(xs.length=i)∧(at1≤bs.length)∧(FX bs at_ bad f1 v14 i at1 xs)∧(∀v∈xs,0≤v∧v≤1000000000)∧mm=v14-i) v14 ?_ ?_
  ·replace I:=I.kp [0,2,3,4,5] rfl;exact⟨0,[],none,0,a14,b14,I,(((((O.ba 3 1).p 3).p 1).p 3).p 3),(by omega),(by rfl),(by omega),(by exact FX.start hn14),(by intro v hv;cases hv),by omega⟩
  intro m a w hI;clear O I;obtain⟨i,xs,Av,cv,at1,f1,I,O,hi,hxl,hat1,hq,hx0,rfl⟩:=hI;refine rC 5 I ?_;clear I a;refine aJ 0 0 (aq rfl rfl) ?_ ?_
  ·intro h17;refine uO 2 ?_;refine u1 0 (bc rfl) ?_;refine u1 0 (aa rfl db) ?_;refine j4 0 0 (ld rfl) ?_ ?_
   ·intro h22;have hend:v14≤i∨f1=true:=.inr h22;refine u1 8 (aB rfl) ?_;intro a I;replace I:=I.kp [0,2,3] rfl
    first
     | exact⟨_,_,_,_,_,_,I,O,(by omega),(by omega),(by omega),(by exact hq),(by exact hx0),(by exact hend)⟩
   ·intro h22;intro a I;subst h22;refine o1 8 I (aB (I.ev rfl)) ?_;clear I a;intro a I;refine jo [5,7] (lB W (a6 b3 (.cells #[.slice Av xs.length cv,.slice none 0 0] 63)::cq 3 Av cv xs::a6 b2 (.cells #[.slice none 0 0,.slice none 0 0] 63)::L)) (by kernel_rfl) ?_;replace O:=O.drew;refine P1 0 [] I rfl (fun w=>(aa (I.ev rfl) cD)) ?_;clear I a;refine cZ 1 [2] rfl (by exact⟨[_],O⟩) (fun w hT=>have O:=hT.sat;(ld rfl)) ?_;intro a I;refine aE 3 (by kernel_rfl) ?_;refine eF I rfl rfl Fp rfl (cP _ _ _ s A c bs at1 false 1000000000 O (by omega) (by omega) (fun w s=>hR w s.drop.drop.drop) (by decide) (by decide)) ?_;clear I a;clear O;rintro e w ⟨v30,a30,b30,rfl,O,hn30⟩;obtain⟨hl30,hv30⟩:=hn30.le;have hw30:=hn30.cQ (by omega);refine⟨_,rfl,?_⟩;intro a I;refine⟨.inr fun _=>(by exact⟨[_],O⟩),?_⟩;refine aE 4 (by kernel_rfl) ?_
    refine eL I rfl rfl rfl ax iU rfl rfl rfl (by simp[Value.oneCell']) O ?_;clear I a O;intro A31 w O;intro a I;refine⟨.inr fun _=>(by exact⟨[_,_],O⟩),?_⟩;refine aE 5 (by kernel_rfl) ?_
    first | refine eA I rfl rfl rfl rfl ax iU rfl O (by exact O.rd.src ax (by simp[Value.oneCell'])) (by omega) (by omega) ?_ | refine eA I rfl rfl rfl rfl ax iU rfl (O.p 1) (by exact O.rd.src ax (by simp[Value.oneCell'])) (by omega) (by omega) ?_ | refine eA I rfl rfl rfl rfl ax iU rfl (O.p 2) (by exact O.rd.src ax (by simp[Value.oneCell'])) (by omega) (by omega) ?_ | refine eA I rfl rfl rfl rfl ax iU rfl (O.p 3) (by exact O.rd.src ax (by simp[Value.oneCell'])) (by omega) (by omega) ?_ | refine eA I rfl rfl rfl rfl ax iU rfl (O.p 4) (by first | exact O.rd.src ax (by simp[Value.oneCell']) | exact (O.p 1).rd.src ax (by simp[Value.oneCell']) | exact (O.p 2).rd.src ax (by simp[Value.oneCell']) | exact (O.p 3).rd.src ax (by simp[Value.oneCell']) | exact (O.p 4).rd.src ax (by simp[Value.oneCell']) | exact (O.p 5).rd.src ax (by simp[Value.oneCell']) | exact (O.p 6).rd.src ax (by simp[Value.oneCell'])) (by omega) (by omega) ?_ | refine eA I rfl rfl rfl rfl ax iU rfl (O.p 5) (by first | exact O.rd.src ax (by simp[Value.oneCell']) | exact (O.p 1).rd.src ax (by simp[Value.oneCell']) | exact (O.p 2).rd.src ax (by simp[Value.oneCell']) | exact (O.p 3).rd.src ax (by simp[Value.oneCell']) | exact (O.p 4).rd.src ax (by simp[Value.oneCell']) | exact (O.p 5).rd.src ax (by simp[Value.oneCell']) | exact (O.p 6).rd.src ax (by simp[Value.oneCell'])) (by omega) (by omega) ?_ | refine eA I rfl rfl rfl rfl ax iU rfl (O.p 6) (by first | exact O.rd.src ax (by simp[Value.oneCell']) | exact (O.p 1).rd.src ax (by simp[Value.oneCell']) | exact (O.p 2).rd.src ax (by simp[Value.oneCell']) | exact (O.p 3).rd.src ax (by simp[Value.oneCell']) | exact (O.p 4).rd.src ax (by simp[Value.oneCell']) | exact (O.p 5).rd.src ax (by simp[Value.oneCell']) | exact (O.p 6).rd.src ax (by simp[Value.oneCell'])) (by omega) (by omega) ?_
    clear I a O;intro A32 c32 w hc32 O;intro a I;refine⟨.inl rfl,?_⟩;refine P1 6 [] I rfl (fun w=>(aa (I.ev rfl) cD)) ?_;clear I a;intro a I;refine aE 7 (by kernel_rfl) ?_;refine HP (cs':=[_,_]) I rfl rfl rfl gU fK rfl (O.p 3) rfl rfl ?_;clear O;intro w O;refine⟨.inl rfl,?_⟩;refine ah (by kernel_rfl) ?_ _;refine rE 4 I ?_;clear I a;refine u1 2 (ad rfl rfl) ?_;intro a I;replace I:=I.kp [0,2,3,4,5] rfl;have el:xs.length+1=(xs++[(v30:Int)]).length:=by simp
    have hS2:=fQ ((((O.p 4).p 4).p 2).p 3) el (cs':=(xs++[(v30:Int)]).map (Value.int .i64)) (by simp);rw[el]at hS2;refine⟨v14-(i+1),by omega,i+1,xs++[(v30:Int)],A32,c32,a30,b30,I,(((((hS2.p 3).p 1).p 2).p 3).p 4).drop,by omega,by simp;omega,hl30,hq.more (by omega) hn30,?_,rfl⟩;intro z hz;rcases List.mem_append.1 hz with hz | hz
    ·exact hx0 z hz
    ·simp at hz;subst hz;omega
  ·intro h17;have hend:v14≤i∨f1=true:=.inl (by omega);refine uO 14 ?_;intro a I;replace I:=I.kp [0,2,3] rfl
   first
    | exact⟨_,_,_,_,_,_,I,O,(by omega),(by omega),(by omega),(by exact hq),(by exact hx0),(by exact hend)⟩
 ·intro a w hI;clear O I;obtain⟨i,xs,Av,cv,at1,f1,I,O,hi,hxl,hat1,hq,hx0,hend⟩:=hI;refine rC 4 I ?_;clear I a;refine u1 0 (bc rfl) ?_;refine u1 0 (aa rfl qJ) ?_;refine u1 0 (ld rfl) ?_;refine u1 0 (ak rfl bd) ?_;refine uF rfl (cP _ _ _ s A c bs at1 f1 (bs.length:Int) O (by omega) (by omega) (fun w s=>hR w s.drop.drop.drop) (by omega) (by omega)) ?_;clear O;rintro e w ⟨v40,a40,b40,rfl,O,hn40⟩;obtain⟨hl40,hv40⟩:=hn40.le;have hw40:=hn40.cQ (by omega);refine uO 9 ?_;intro a I
  refine dx (fun a w=>∃(j:Nat) (ys:List aL) (Ac:Option Addr) (cc at2:Nat) (f2:Bool),Ag a 108 [(0,.pointer (some ⟨s,0,none⟩)),(2,.pointer (some ⟨b2,0,none⟩)),(3,.pointer (some ⟨b3,0,none⟩))]∧Sat W w (a6 s (.cells #[.slice A bs.length c,.int .i64 (at2:Int),.bool f2] 352)::a6 b3 (.cells #[.slice Av xs.length cv,.slice Ac ys.length cc] 63)::cq 3 Av cv xs::bp 219 Ac cc ys::a6 b2 (.cells #[.slice none 0 0,.slice none 0 0] 63)::L)∧(j≤v40)∧(ys.length=j)∧(at2≤bs.length)∧(Cb bs at_ bad f2 xs v40 j at2 ys)∧(v40≤j∨f2=true)) ?_ ?_
  ·refine rC 6 I ?_;clear I a;intro a I;refine wp_loop_ghost (fun (mm:Nat) a w=>∃(j:Nat) (ys:List aL) (Ac:Option Addr) (cc at2:Nat) (f2:Bool),Ag a 108 [(0,.pointer (some ⟨s,0,none⟩)),(2,.pointer (some ⟨b2,0,none⟩)),(3,.pointer (some ⟨b3,0,none⟩)),(4,.int .i64 ((v40:Nat):Int)),(6,.int .i64 ((bV ys.getLast?))),(7,.int .i64 ((wU ys.getLast?))),(8,.int .i64 ((j:Nat):Int))]∧Sat W w (a6 s (.cells #[.slice A bs.length c,.int .i64 (at2:Int),.bool f2] 352)::a6 b3 (.cells #[.slice Av xs.length cv,.slice Ac ys.length cc] 63)::cq 3 Av cv xs::bp 219 Ac cc ys::a6 b2 (.cells #[.slice none 0 0,.slice none 0 0] 63)::L)∧(j≤v40)∧(ys.length=j)∧(at2≤bs.length)∧(Cb bs at_ bad f2 xs v40 j at2 ys)∧(f2=false→∀s∈ys,0≤s.rep∧s.rep<16∧0≤s.hi∧s.hi≤1000000000)∧mm=v40-j) v40 ?_ ?_
   ·replace I:=I.kp [0,2,3,4,6,7,8] rfl;exact⟨0,[],none,0,a40,b40,I,((((((O.ba 219 3).p 4).p 1).p 4).p 4).p 4),(by omega),(by rfl),(by omega),(by exact hq.next hend hx0 hn40),(by intro _ v hv;cases hv),by omega⟩
   intro m a w hI;clear O I;obtain⟨j,ys,Ac,cc,at2,f2,I,O,hj,hyl,hat2,hq2,hy0,rfl⟩:=hI;refine rC 5 I ?_;clear I a;refine aJ 0 0 (aq rfl rfl) ?_ ?_
   ·intro h43;refine uO 2 ?_;refine u1 0 (bc rfl) ?_;refine u1 0 (aa rfl db) ?_;refine j4 0 0 (ld rfl) ?_ ?_
    ·intro h48;have hend2:v40≤j∨f2=true:=.inr h48;refine u1 8 (aB rfl) ?_;intro a I;replace I:=I.kp [0,2,3] rfl
     first
      | exact⟨_,_,_,_,_,_,I,O,(by omega),(by omega),(by omega),(by exact hq2),(by exact hend2)⟩
    ·intro h48;intro a I;subst h48;have hy1:=hy0 rfl;obtain⟨hp0,hp1⟩:=B7 hy1;obtain⟨hh0,hh1⟩:=Fo hy1;refine o1 11 I (aB (I.ev rfl)) ?_;clear I a;refine uF rfl (cP _ _ _ s A c bs at2 false 16 O (by omega) (by omega) (fun w s=>hR w s.drop.drop.drop.drop) (by decide) (by decide)) ?_;clear O;rintro e w ⟨v54,a54,b54,rfl,O,hn54⟩;obtain⟨hl54,hv54⟩:=hn54.le;have hw54:=hn54.cQ (by omega);refine uO 1 ?_;refine uF rfl (cP _ _ _ s A c bs a54 b54 1000000000 O (by omega) (by omega) (fun w s=>hR w s.drop.drop.drop.drop) (by decide) (by decide)) ?_;clear O;rintro e w ⟨v56,a56,b56,rfl,O,hn56⟩;obtain⟨hl56,hv56⟩:=hn56.le;have hw56:=hn56.cQ (by omega);refine uO 1 ?_;refine uF rfl (cP _ _ _ s A c bs a56 b56 1000000000 O (by omega) (by omega) (fun w s=>hR w s.drop.drop.drop.drop) (by decide) (by decide)) ?_
     clear O;rintro e w ⟨v58,a58,b58,rfl,O,hn58⟩;obtain⟨hl58,hv58⟩:=hn58.le;have hw58:=hn58.cQ (by omega);refine uO 7 ?_;refine u1 2 (lS (cs:=[_,_]) rfl) ?_;refine u1 0 (ad rfl rfl) ?_;refine uF rfl (pL _ ⟨Av,cv,Ac,cc,⟨xs,ys⟩⟩ (bV ys.getLast?+(v54:Int)) ⟨(O.p 2).rd,(O.p 3).rd⟩ (by omega) (by omega) (by show xs.length≤_;omega)) ?_;rintro e w ⟨rfl,hT⟩;dsimp only;replace O:Sat _ _ _:=O.ag hT;clear hT;obtain⟨hva0,hva1⟩:=dv hx0 (bV ys.getLast?+(v54:Int)).toNat;refine u1 3 (ad rfl rfl) ?_;intro a I
     refine dx (fun a w=>∃(lst:Int),Ag a 108 [(0,.pointer (some ⟨s,0,none⟩)),(2,.pointer (some ⟨b2,0,none⟩)),(3,.pointer (some ⟨b3,0,none⟩)),(4,.int .i64 ((v40:Nat):Int)),(6,.int .i64 ((bV ys.getLast?))),(7,.int .i64 ((wU ys.getLast?))),(8,.int .i64 ((j:Nat):Int)),(9,.int .i64 ((v54:Nat):Int)),(10,.int .i64 ((v56:Nat):Int)),(11,.int .i64 ((v58:Nat):Int)),(12,.int .i64 lst)]∧Sat W w (a6 s (.cells #[.slice A bs.length c,.int .i64 (a58:Int),.bool b58] 352)::a6 b3 (.cells #[.slice Av xs.length cv,.slice Ac ys.length cc] 63)::cq 3 Av cv xs::bp 219 Ac cc ys::a6 b2 (.cells #[.slice none 0 0,.slice none 0 0] 63)::L)∧(bt xs ys.getLast? (bV ys.getLast?+(v54:Int))=lst)∧(0≤lst)∧(lst≤1000000002)) ?_ ?_
     ·refine rC 3 I ?_;clear I a;refine aJ 0 0 (cG rfl rfl) ?_ ?_
      ·intro h66;refine uO 2 ?_;refine aJ 0 0 (aU rfl rfl) ?_ ?_
       ·intro h69;have hle:=zo (xs:=xs) (D1 (ys:=ys) (by omega)) (show v54=0 by omega);refine uO 6 ?_;refine u1 2 (ad rfl rfl) ?_;intro a I;replace I:=I.kp [0,2,3,4,6,7,8,9,10,11,12] rfl
        first
         | exact⟨_,I,O,(by exact hle),(by omega),(by omega)⟩
       ·intro h69;have hle:=zH (vec:=xs) (p:=ys.getLast?) (r:=bV ys.getLast?+(v54:Int)) (by omega);refine uO 5 ?_;intro a I;replace I:=I.kp [0,2,3,4,6,7,8,9,10,11,12] rfl
        first
         | exact⟨_,I,O,(by exact hle),(by omega),(by omega)⟩
      ·intro h66;have hle:=CZ (xs:=xs) (ys:=ys) (r:=bV ys.getLast?+(v54:Int)) (by omega);refine uO 8 ?_;intro a I;replace I:=I.kp [0,2,3,4,6,7,8,9,10,11,12] rfl
       first
        | exact⟨_,I,O,(by exact hle),(by omega),(by omega)⟩
     ·intro a w hI;clear O I;obtain⟨lst,I,O,hle,hls0,hls1⟩:=hI;refine rC 4 I ?_;clear I a;refine u1 7 (ad rfl rfl) ?_;refine u1 1 (ad rfl rfl) ?_;refine u1 5 (ad rfl rfl) ?_;refine u1 0 (aa rfl cd) ?_;refine u1 3 (ld rfl) ?_;refine u1 1 (ad rfl rfl) ?_;intro a I;refine o1 0 I (ar I rfl iw) ?_;clear I a;intro a I;refine gF (vss:=[[_,_,_]]) I rfl rfl dt nT rfl rfl rfl (by simp) rfl O ?_;clear I a O;intro A89 w O;intro a I;refine dq I rfl rfl rfl dt nT rfl (O.p 4) (O.rd.src dt (by simp[Value.oneCell'])) (by omega) (by omega) ?_;clear I a O;intro A90 c90 w hc90 O;refine u1 0 (aa rfl cd) ?_;intro a I;refine fS (cs':=[_,_]) I rfl rfl we C4 rfl (O.p 3) rfl rfl ?_;clear O;intro w O;refine rO 5 I ?_;clear I a;refine aJ 0 0 (dF rfl rfl) ?_ ?_
      ·intro h93;refine uO 9 ?_;refine u1 0 (bc rfl) ?_;refine u1 0 (aa rfl db) ?_;intro a I;refine kK I rfl rfl tA wq rfl (O.p 3) rfl ?_;clear O;intro w O;refine rO 5 I ?_;clear I a;refine u1 2 (ad rfl rfl) ?_;intro a I;replace I:=I.kp [0,2,3,4,6,7,8] rfl;obtain⟨nw,hnw⟩:∃nw:aL,nw=(⟨bV ys.getLast?+(v54:Int),lst+(v56:Int),lst+(v56:Int)+(v58:Int)⟩:aL):=⟨_,rfl⟩;have el:ys.length+1=(ys++[nw]).length:=by simp
       have hS2:=fQ (((((O.p 5).p 5).p 2).p 3).p 4) el (cs':=(ys++[nw]).flatMap gH) (by rw[List.flatMap_append,hnw];rfl);rw[el]at hS2;have e6:bV ys.getLast?+(v54:Int)=bV (ys++[nw]).getLast?:=by rw[bH,hnw];rfl
       have e7:lst+(v56:Int)+(v58:Int)=wU (ys++[nw]).getLast?:=by rw[bH,hnw];rfl
       rw[e7,e6]at I;exact⟨v40-(j+1),by omega,j+1,ys++[nw],A90,c90,a58,true,I,((((((hS2.p 4).p 1).p 4).p 3).p 4).p 5).drop,by omega,by simp;omega,hl58,hq2.wk (by omega) hn54 hn56 hn58 (by rw[hle];omega),(fun h=>by cases h),rfl⟩
      ·intro h93;refine uO 2 ?_;refine aJ 0 0 (cG rfl rfl) ?_ ?_
       ·intro h96;refine uO 6 ?_;refine u1 0 (bc rfl) ?_;refine u1 0 (aa rfl db) ?_;intro a I;refine kK I rfl rfl tA wq rfl (O.p 3) rfl ?_;clear O;intro w O;refine rO 5 I ?_;clear I a;refine u1 2 (ad rfl rfl) ?_;intro a I;replace I:=I.kp [0,2,3,4,6,7,8] rfl;obtain⟨nw,hnw⟩:∃nw:aL,nw=(⟨bV ys.getLast?+(v54:Int),lst+(v56:Int),lst+(v56:Int)+(v58:Int)⟩:aL):=⟨_,rfl⟩;have el:ys.length+1=(ys++[nw]).length:=by simp
        have hS2:=fQ (((((O.p 5).p 5).p 2).p 3).p 4) el (cs':=(ys++[nw]).flatMap gH) (by rw[List.flatMap_append,hnw];rfl);rw[el]at hS2;have e6:bV ys.getLast?+(v54:Int)=bV (ys++[nw]).getLast?:=by rw[bH,hnw];rfl
        have e7:lst+(v56:Int)+(v58:Int)=wU (ys++[nw]).getLast?:=by rw[bH,hnw];rfl
        rw[e7,e6]at I;exact⟨v40-(j+1),by omega,j+1,ys++[nw],A90,c90,a58,true,I,((((((hS2.p 4).p 1).p 4).p 3).p 4).p 5).drop,by omega,by simp;omega,hl58,hq2.wk (by omega) hn54 hn56 hn58 (by rw[hle];omega),(fun h=>by cases h),rfl⟩
       ·intro h96;refine uO 9 ?_;refine u1 2 (ad rfl rfl) ?_;intro a I;replace I:=I.kp [0,2,3,4,6,7,8] rfl;obtain⟨nw,hnw⟩:∃nw:aL,nw=(⟨bV ys.getLast?+(v54:Int),lst+(v56:Int),lst+(v56:Int)+(v58:Int)⟩:aL):=⟨_,rfl⟩;have el:ys.length+1=(ys++[nw]).length:=by simp
        have hS2:=fQ (((((O.p 5).p 5).p 5).p 3).p 4) el (cs':=(ys++[nw]).flatMap gH) (by rw[List.flatMap_append,hnw];rfl);rw[el]at hS2;have e6:bV ys.getLast?+(v54:Int)=bV (ys++[nw]).getLast?:=by rw[bH,hnw];rfl
        have e7:lst+(v56:Int)+(v58:Int)=wU (ys++[nw]).getLast?:=by rw[bH,hnw];rfl
        rw[e7,e6]at I;cases b58
        ·exact⟨v40-(j+1),by omega,j+1,ys++[nw],A90,c90,a58,false,I,((((((hS2.p 4).p 1).p 4).p 3).p 4).p 5).drop,by omega,by simp;omega,hl58,(by have:=hq2.more (by omega) hn54 hn56 hn58 (by omega) (by rw[hle];omega);rw[hle,←hnw]at this;exact this),(fun _ z hz=>by
         rcases List.mem_append.1 hz with hz | hz
         ·exact hy1 z hz
         ·simp only[List.mem_singleton]at hz;subst hz;rw[hnw];exact⟨by dsimp only;omega,by dsimp only;omega,by dsimp only;omega,by dsimp only;omega⟩),rfl⟩
        ·exact⟨v40-(j+1),by omega,j+1,ys++[nw],A90,c90,a58,true,I,((((((hS2.p 4).p 1).p 4).p 3).p 4).p 5).drop,by omega,by simp;omega,hl58,hq2.off (by omega) (Al hn54 hn56 hn58),(fun h=>by cases h),rfl⟩
   ·intro h43;have hend2:v40≤j∨f2=true:=.inl (by omega);refine uO 14 ?_;intro a I;replace I:=I.kp [0,2,3] rfl
    first
     | exact⟨_,_,_,_,_,_,I,O,(by omega),(by omega),(by omega),(by exact hq2),(by exact hend2)⟩
  ·intro a w hI;clear O I;obtain⟨j,ys,Ac,cc,at2,f2,I,O,hj,hyl,hat2,hq2,hend2⟩:=hI;refine rC 3 I ?_;clear I a;refine u1 0 (lS (cs:=[_,_]) rfl) ?_;refine uF rfl (eG _ ⟨Av,cv,Ac,cc,⟨xs,ys⟩⟩ ⟨(O.p 2).rd,(O.p 3).rd⟩ (by show ys.length≤_;omega) (by show xs.length≤_;omega)) ?_;rintro e w ⟨rfl,hT⟩;replace O:Sat _ _ _:=O.ag hT;clear hT;have hdn:=hq2.done hend2;generalize h102:bg _=bb;cases bb
   ·refine u1 5 (aB rfl) ?_;refine u1 0 (bc rfl) ?_;refine u1 0 (aa rfl db) ?_;intro a I;refine kK I rfl rfl tA wq rfl O rfl ?_;clear O;intro w O;refine rO 4 I ?_;clear I a;refine u1 0 (lS (cs:=[_,_]) rfl) ?_;refine uW (vs:=[_,_]) (cs':=[_,_]) rfl rfl aO (O.p 4) ?_;clear O;intro w O;refine uO 3 ?_;intro a I;refine fY I rfl (br (cs:=[_,_]) I rfl cS aO (by exact O.ao (xs:=[_,_]) rfl)) ?_;refine⟨⟨Av,cv,Ac,cc,⟨xs,ys⟩⟩,at2,true,rfl,?_,?_⟩
    ·exact (O.drop.p 1).drop
    ·exact ym.Kr (by omega) (by show xs.length≤_;omega) (by show ys.length≤_;omega) hdn h102
   ·refine u1 7 (aB rfl) ?_;refine u1 0 (lS (cs:=[_,_]) rfl) ?_;refine uW (vs:=[_,_]) (cs':=[_,_]) rfl rfl aO (O.p 4) ?_;clear O;intro w O;refine uO 3 ?_;intro a I;refine fY I rfl (br (cs:=[_,_]) I rfl cS aO (by exact O.ao (xs:=[_,_]) rfl)) ?_;refine⟨⟨Av,cv,Ac,cc,⟨xs,ys⟩⟩,at2,f2,rfl,?_,?_⟩
    ·exact (O.drop.p 1).drop
    ·exact ym.KB (by omega) (by show xs.length≤_;omega) (by show ys.length≤_;omega) hdn h102
theorem nP (W:World)(A:Option Addr)(c:Nat)(bs:List UInt8)(hb:bs.length≤16777216)(hR:Rd W 1 (.slice A bs.length c) bs.length (bs.map aj)):Calls Tryz.prog 188 #[.slice A (bs).length c] W fun e w'=>(∃(z:PL),cL bs=some (z.d,[])∧bg z.d=true∧(z.d.ab.length≤bs.length)∧e=.returned (.tuple #[.agg #[.slice z.va z.d.vec.length z.vc,.slice z.ca z.d.ab.length z.cc],.int .i64 0])∧Sat W w' [cq 3 z.va z.vc z.d.vec,bp 219 z.ca z.cc z.d.ab])∨((∀d,cL bs=some (d,[])→bg d=false)∧e=.returned (.tuple #[.agg #[.slice none 0 0,.slice none 0 0],.int .i64 8])∧Sat W w' []):=by
 refine bS Tryz.func188 [0] ?_;have O:=Sat.start W;refine uC 2 ?_;refine uN cY O ?_;clear O;intro b2 w O;refine uO 6 ?_;intro a I;refine o1 0 I (ar I rfl xJ) ?_;clear I a;refine uN FG O ?_;clear O;intro b4 w O;refine uW (vs:=[_,_,_]) (cs':=[_,_,_]) rfl rfl EF O ?_;clear O;intro w O;refine uO 4 ?_;intro a I;change Sat W w (a6 b4 (.cells #[.slice A bs.length c,.int .i64 ((0:Nat):Int),.bool false] 352)::_) at O;refine Ht I rfl H9 rfl (oK _ _ _ b4 A c bs 0 false O (by omega) (by omega) (fun w s=>hR.sat s)) ?_;clear I a;clear O;rintro e w ⟨q8,a8,b8,rfl,O,hn8⟩;have hl8:=hn8.1;refine⟨_,rfl,?_⟩;refine uN cY O ?_;clear O;intro b5 w O;refine uW (vs:=[_,_]) (cs':=[_,_]) rfl rfl aO O ?_;clear O;intro w O;refine uO 5 ?_;refine u1 0 (aa rfl db) ?_;refine j4 0 0 (ld rfl) ?_ ?_
 ·intro h10;intro a I;subst h10;refine rO 12 I ?_;clear I a;intro a I;refine o1 0 I (ar I rfl l5) ?_;clear I a;refine uW (vs:=[_,_]) (cs':=[_,_]) rfl rfl aO (O.p 4) ?_;clear O;intro w O;refine uO 5 ?_;intro a I;refine bO I rfl (br (cs:=[_,_]) I rfl cS aO (by exact O.ao (xs:=[_,_]) rfl)) (aQ I rfl) ?_;exact .inr ⟨hn8.JB,rfl,O.nil⟩
 ·intro h10;intro a I;subst h10;refine rO 1 I ?_;clear I a;refine u1 0 (aa rfl fp) ?_;refine u1 1 (ld rfl) ?_;refine u1 0 (ak rfl bd) ?_;refine aJ 0 0 (aD rfl rfl) ?_ ?_
  ·intro h16;refine uO 6 ?_;intro a I;refine o1 0 I (ar I rfl l5) ?_;clear I a;refine uW (vs:=[_,_]) (cs':=[_,_]) rfl rfl aO (O.p 4) ?_;clear O;intro w O;refine uO 5 ?_;intro a I;refine bO I rfl (br (cs:=[_,_]) I rfl cS aO (by exact O.ao (xs:=[_,_]) rfl)) (aQ I rfl) ?_;exact .inr ⟨hn8.JH (by omega),rfl,O.nil⟩
  ·intro h16;refine uO 8 ?_;refine u1 0 (lS (cs:=[_,_]) rfl) ?_;refine uW (vs:=[_,_]) (cs':=[_,_]) rfl rfl aO (O.p 4) ?_;clear O;intro w O;refine uO 4 ?_;intro a I;refine bO I rfl (br (cs:=[_,_]) I rfl cS aO (by exact O.ao (xs:=[_,_]) rfl)) (aQ I rfl) ?_;obtain⟨hq,hg⟩:=hn8.fin (by omega);exact .inl ⟨q8,hq,hg,hn8.2.2.1,rfl,n5 ((O.p 4).p 4)⟩
theorem tf (W:World)(A:Option Addr)(c:Nat)(bs:List UInt8)(hb:bs.length≤16777216)(hR:Rd W 1 (.slice A bs.length c) bs.length (bs.map aj)):Calls Tryz.prog 187 #[.slice A (bs).length c] W fun e w'=>(∃(Ae:Option Addr) (ce:Nat) (xs:List aS),fz bs=some (xs,[])∧bP xs=true∧(xs.length * 5≤bs.length)∧e=.returned (.tuple #[.slice Ae xs.length ce,.int .i64 0])∧Sat W w' [fJ 216 Ae ce xs])∨((∀xs,fz bs=some (xs,[])→bP xs=false)∧e=.returned (.tuple #[.slice none 0 0,.int .i64 8])∧Sat W w' []):=by
 refine bS Tryz.func187 [0] ?_;have O:=Sat.start W;refine uC 9 ?_;intro a I;refine o1 0 I (ar I rfl xJ) ?_;clear I a;refine uN FG O ?_;clear O;intro b4 w O;refine uW (vs:=[_,_,_]) (cs':=[_,_,_]) rfl rfl EF O ?_;clear O;intro w O;refine uO 9 ?_;intro a I;change Sat W w (a6 b4 (.cells #[.slice A bs.length c,.int .i64 ((0:Nat):Int),.bool false] 352)::_) at O;refine Ht I rfl Fp rfl (cP _ _ _ b4 A c bs 0 false 4000000000 O (by omega) (by omega) (fun w s=>hR.sat s) (by decide) (by decide)) ?_;clear I a;clear O;rintro e w ⟨v16,a16,b16,rfl,O,hn16⟩;obtain⟨hl16,hv16⟩:=hn16.le;have hw16:=hn16.cQ (by omega);refine⟨_,rfl,?_⟩;refine uO 16 ?_;intro a I
 refine wp_loop_ghost (fun (mm:Nat) a w=>∃(i:Nat) (xs:List aS) (Ae:Option Addr) (ce at1:Nat) (f1:Bool),Ag a 72 [(0,.slice A (bs).length c),(4,.pointer (some ⟨b4,0,none⟩)),(5,.slice Ae (xs).length ce),(6,.int .i64 ((v16:Nat):Int)),(7,.int .i64 ((a7 xs.getLast?))),(8,.int .i64 ((mn xs.getLast? - 1))),(9,.int .i64 ((i:Nat):Int))]∧Sat W w ([a6 b4 (.cells #[.slice A bs.length c,.int .i64 (at1:Int),.bool f1] 352),fJ 216 Ae ce xs])∧(i≤v16)∧(xs.length=i)∧(at1≤bs.length)∧(SE bs f1 v16 i at1 xs)∧(f1=false→∀e∈xs,0≤e.rep∧e.rep<16∧1≤e.num∧e.num≤1000000000)∧mm=v16-i) v16 ?_ ?_
 ·replace I:=I.kp [0,4,5,6,7,8,9] rfl;exact⟨0,[],none,0,a16,b16,I,((O.ba 216 4).p 1),(by omega),(by rfl),(by omega),(by exact SE.start (by omega) hn16),(by intro _ v hv;cases hv),by omega⟩
 intro m a w hI;clear O I;obtain⟨i,xs,Ae,ce,at1,f1,I,O,hi,hxl,hat1,hq,hy0,rfl⟩:=hI;refine rC 5 I ?_;clear I a;refine aJ 0 0 (aq rfl rfl) ?_ ?_
 ·intro h19;refine uO 1 ?_;refine u1 0 (aa rfl db) ?_;refine j4 0 0 (ld rfl) ?_ ?_
  ·intro h22;have hend:v16≤i∨f1=true:=.inr h22;refine u1 9 (aB rfl) ?_;intro a I;replace I:=I.kp [0,4,5] rfl;refine rC 3 I ?_;clear I a;refine u1 0 (aa rfl db) ?_;refine j4 0 0 (ld rfl) ?_ ?_
   ·intro h58;refine uO 23 ?_;refine fo ?_;exact .inr ⟨hq.all hend hat1 (.inl h58),rfl,O.nil⟩
   ·intro h58;refine uO 1 ?_;refine u1 0 (aa rfl fp) ?_;refine u1 1 (ld rfl) ?_;refine u1 0 (ak rfl bd) ?_;refine aJ 0 0 (aD rfl rfl) ?_ ?_
    ·intro h64;refine uO 17 ?_;refine fo ?_;exact .inr ⟨hq.all hend hat1 (.inr (.inl (by omega))),rfl,O.nil⟩
    ·intro h64;refine uO 3 ?_;refine iV rfl (lp _ Ae ce xs (O.p 1).rd (by omega)) ?_;rintro e w ⟨rfl,hT⟩;replace O:Sat _ _ _:=O.ag hT;clear hT;generalize h68:bP xs=bb;cases bb
     ·refine u1 12 (aB rfl) ?_;refine fo ?_;exact .inr ⟨hq.all hend hat1 (.inr (.inr h68)),rfl,O.nil⟩
     ·refine u1 14 (aB rfl) ?_;refine fo ?_;subst h58;have hf:=hq.fin hend (by omega);exact .inl ⟨Ae,ce,xs,hf,h68,SE.It hf h68,rfl,gy (O.p 1)⟩
  ·intro h22;intro a I;subst h22;have hy1:=hy0 rfl;obtain⟨hp0,hp1,hp2,hp3⟩:=zz hy1;refine o1 10 I (aB (I.ev rfl)) ?_;clear I a;refine uF rfl (cP _ _ _ b4 A c bs at1 false 16 O (by omega) (by omega) (fun w s=>hR.sat s) (by decide) (by decide)) ?_;clear O;rintro e w ⟨v27,a27,b27,rfl,O,hn27⟩;obtain⟨hl27,hv27⟩:=hn27.le;have hw27:=hn27.cQ (by omega);refine uF rfl (cP _ _ _ b4 A c bs a27 b27 1000000000 O (by omega) (by omega) (fun w s=>hR.sat s) (by decide) (by decide)) ?_;clear O;rintro e w ⟨v28,a28,b28,rfl,O,hn28⟩;obtain⟨hl28,hv28⟩:=hn28.le;have hw28:=hn28.cQ (by omega);refine uO 6 ?_;refine uF rfl (oG _ _ _ b4 A c bs a28 b28 24 O (by omega) (by omega) (fun w s=>hR.sat s) (by decide) (by decide)) ?_;clear O;rintro e w ⟨t29,a29,b29,rfl,O,hn29⟩;have hl29:=hn29.1;refine uO 5 ?_
   refine uF rfl (cP _ _ _ b4 A c bs a29 b29 1000000 O (by omega) (by omega) (fun w s=>hR.sat s) (by decide) (by decide)) ?_;clear O;rintro e w ⟨v30,a30,b30,rfl,O,hn30⟩;obtain⟨hl30,hv30⟩:=hn30.le;have hw30:=hn30.cQ (by omega);refine uO 7 ?_;refine aJ 0 0 (cG rfl rfl) ?_ ?_
   ·intro h32;refine uO 11 ?_;refine u1 7 (ad rfl rfl) ?_;refine u1 0 (ad rfl rfl) ?_;refine u1 8 (ad rfl rfl) ?_;intro a I;refine o1 2 I (ar I rfl pj) ?_;clear I a;refine u1 0 (ad rfl rfl) ?_;intro a I;refine o1 0 I (ar I rfl lK) ?_;clear I a;intro a I;refine gF (vss:=[[_,_,_,_]]) I rfl rfl bC gE rfl rfl rfl (by simp) rfl O ?_;clear I a O;intro A48 w O;intro a I;refine dq I rfl rfl rfl bC gE rfl (O.p 2) (O.rd.src bC (by simp[Value.oneCell'])) (by omega) (by omega) ?_;clear I a O;intro A49 c49 w hc49 O;refine uO 6 ?_;refine aJ 0 0 (dF rfl rfl) ?_ ?_
    ·intro h51;refine uO 8 ?_;refine u1 0 (aa rfl db) ?_;intro a I;refine fS (cs':=[_,_,_]) I rfl rfl tA wq rfl (O.p 2) rfl rfl ?_;clear O;intro w O;refine rO 5 I ?_;clear I a;refine u1 2 (ad rfl rfl) ?_;intro a I;replace I:=I.kp [0,4,5,6,7,8,9] rfl;have hnx:dw xs.getLast? (a7 xs.getLast?+(v27:Int))=1:=yB (by omega);obtain⟨nw,hnw⟩:∃nw:aS,nw=(⟨a7 xs.getLast?+(v27:Int),1+(v28:Int),str t29,(v30:Int)+1⟩:aS):=⟨_,rfl⟩;have en:0+((v28:Int)+1)=nw.num:=by rw[hnw];show _=1+(v28:Int);omega
     have er:a7 xs.getLast?+(v27:Int)=nw.rep:=by rw[hnw]
     rw[en,er]at O I;have el:xs.length+1=(xs++[nw]).length:=by simp
     have hS2:=fQ (O.p 1) el (cs':=(xs++[nw]).flatMap lG) (by clear en er O I;subst hnw;rw[List.flatMap_append];rfl);rw[el]at I;rw[show nw.rep=a7 (xs++[nw]).getLast? from by rw[bH];rfl,show nw.num=mn (xs++[nw]).getLast? - 1 from by rw[bH];show _=nw.num+1-1;omega]at I;exact⟨v16-(i+1),by omega,i+1,xs++[nw],A49,c49,a30,true,I,(hS2.p 1).cw [_,_],by omega,by simp;omega,hl30,hq.JM (by omega) hn27 hn28 hn29 hn30 (by rw[hnx];omega),(fun h=>by cases h),rfl⟩
    ·intro h51;refine uO 2 ?_;refine aJ 0 0 (cG rfl rfl) ?_ ?_
     ·intro h54;refine uO 5 ?_;refine u1 0 (aa rfl db) ?_;intro a I;refine fS (cs':=[_,_,_]) I rfl rfl tA wq rfl (O.p 2) rfl rfl ?_;clear O;intro w O;refine rO 5 I ?_;clear I a;refine u1 2 (ad rfl rfl) ?_;intro a I;replace I:=I.kp [0,4,5,6,7,8,9] rfl;have hnx:dw xs.getLast? (a7 xs.getLast?+(v27:Int))=1:=yB (by omega);obtain⟨nw,hnw⟩:∃nw:aS,nw=(⟨a7 xs.getLast?+(v27:Int),1+(v28:Int),str t29,(v30:Int)+1⟩:aS):=⟨_,rfl⟩;have en:0+((v28:Int)+1)=nw.num:=by rw[hnw];show _=1+(v28:Int);omega
      have er:a7 xs.getLast?+(v27:Int)=nw.rep:=by rw[hnw]
      rw[en,er]at O I;have el:xs.length+1=(xs++[nw]).length:=by simp
      have hS2:=fQ (O.p 1) el (cs':=(xs++[nw]).flatMap lG) (by clear en er O I;subst hnw;rw[List.flatMap_append];rfl);rw[el]at I;rw[show nw.rep=a7 (xs++[nw]).getLast? from by rw[bH];rfl,show nw.num=mn (xs++[nw]).getLast? - 1 from by rw[bH];show _=nw.num+1-1;omega]at I;exact⟨v16-(i+1),by omega,i+1,xs++[nw],A49,c49,a30,true,I,(hS2.p 1).cw [_,_],by omega,by simp;omega,hl30,hq.JM (by omega) hn27 hn28 hn29 hn30 (by rw[hnx];omega),(fun h=>by cases h),rfl⟩
     ·intro h54;refine uO 9 ?_;refine u1 2 (ad rfl rfl) ?_;intro a I;replace I:=I.kp [0,4,5,6,7,8,9] rfl;have hnx:dw xs.getLast? (a7 xs.getLast?+(v27:Int))=1:=yB (by omega);obtain⟨nw,hnw⟩:∃nw:aS,nw=(⟨a7 xs.getLast?+(v27:Int),1+(v28:Int),str t29,(v30:Int)+1⟩:aS):=⟨_,rfl⟩;have en:0+((v28:Int)+1)=nw.num:=by rw[hnw];show _=1+(v28:Int);omega
      have er:a7 xs.getLast?+(v27:Int)=nw.rep:=by rw[hnw]
      rw[en,er]at O I;have el:xs.length+1=(xs++[nw]).length:=by simp
      have hS2:=fQ O el (cs':=(xs++[nw]).flatMap lG) (by clear en er O I;subst hnw;rw[List.flatMap_append];rfl);rw[el]at I;rw[show nw.rep=a7 (xs++[nw]).getLast? from by rw[bH];rfl,show nw.num=mn (xs++[nw]).getLast? - 1 from by rw[bH];show _=nw.num+1-1;omega]at I;cases b30
      ·exact⟨v16-(i+1),by omega,i+1,xs++[nw],A49,c49,a30,false,I,(hS2.p 2).cw [_,_],by omega,by simp;omega,hl30,(by have:=hq.more (by omega) hn27 hn28 hn29 hn30 (by rw[hnx];omega);rw[hnx,←hnw]at this;exact this),(fun _ z hz=>by
       rcases List.mem_append.1 hz with hz | hz
       ·exact hy1 z hz
       ·simp only[List.mem_singleton]at hz;subst hz;rw[hnw];exact⟨by dsimp only;omega,by dsimp only;omega,by dsimp only;omega,by dsimp only;omega⟩),rfl⟩
      ·exact⟨v16-(i+1),by omega,i+1,xs++[nw],A49,c49,a30,true,I,(hS2.p 2).cw [_,_],by omega,by simp;omega,hl30,hq.wk (by omega) (yk hn27 hn28 hn29 hn30),(fun h=>by cases h),rfl⟩
   ·intro h32;refine uO 9 ?_;refine u1 7 (ad rfl rfl) ?_;refine u1 0 (ad rfl rfl) ?_;refine u1 8 (ad rfl rfl) ?_;intro a I;refine o1 2 I (ar I rfl pj) ?_;clear I a;refine u1 0 (ad rfl rfl) ?_;intro a I;refine o1 0 I (ar I rfl lK) ?_;clear I a;intro a I;refine gF (vss:=[[_,_,_,_]]) I rfl rfl bC gE rfl rfl rfl (by simp) rfl O ?_;clear I a O;intro A48 w O;intro a I;refine dq I rfl rfl rfl bC gE rfl (O.p 2) (O.rd.src bC (by simp[Value.oneCell'])) (by omega) (by omega) ?_;clear I a O;intro A49 c49 w hc49 O;refine uO 6 ?_;refine aJ 0 0 (dF rfl rfl) ?_ ?_
    ·intro h51;intro a I;exfalso;omega
    ·intro h51;refine uO 2 ?_;refine aJ 0 0 (cG rfl rfl) ?_ ?_
     ·intro h54;refine uO 5 ?_;refine u1 0 (aa rfl db) ?_;intro a I;refine fS (cs':=[_,_,_]) I rfl rfl tA wq rfl (O.p 2) rfl rfl ?_;clear O;intro w O;refine rO 5 I ?_;clear I a;refine u1 2 (ad rfl rfl) ?_;intro a I;replace I:=I.kp [0,4,5,6,7,8,9] rfl;have hnx:dw xs.getLast? (a7 xs.getLast?+(v27:Int))=mn xs.getLast?:=Bf (by omega);obtain⟨nw,hnw⟩:∃nw:aS,nw=(⟨a7 xs.getLast?+(v27:Int),mn xs.getLast?+(v28:Int),str t29,(v30:Int)+1⟩:aS):=⟨_,rfl⟩;have en:mn xs.getLast? - 1+((v28:Int)+1)=nw.num:=by rw[hnw];show _=mn xs.getLast?+(v28:Int);omega
      have er:a7 xs.getLast?+(v27:Int)=nw.rep:=by rw[hnw]
      rw[en,er]at O I;have el:xs.length+1=(xs++[nw]).length:=by simp
      have hS2:=fQ (O.p 1) el (cs':=(xs++[nw]).flatMap lG) (by clear en er O I;subst hnw;rw[List.flatMap_append];rfl);rw[el]at I;rw[show nw.rep=a7 (xs++[nw]).getLast? from by rw[bH];rfl,show nw.num=mn (xs++[nw]).getLast? - 1 from by rw[bH];show _=nw.num+1-1;omega]at I;exact⟨v16-(i+1),by omega,i+1,xs++[nw],A49,c49,a30,true,I,(hS2.p 1).cw [_,_],by omega,by simp;omega,hl30,hq.JM (by omega) hn27 hn28 hn29 hn30 (by rw[hnx];omega),(fun h=>by cases h),rfl⟩
     ·intro h54;refine uO 9 ?_;refine u1 2 (ad rfl rfl) ?_;intro a I;replace I:=I.kp [0,4,5,6,7,8,9] rfl;have hnx:dw xs.getLast? (a7 xs.getLast?+(v27:Int))=mn xs.getLast?:=Bf (by omega);obtain⟨nw,hnw⟩:∃nw:aS,nw=(⟨a7 xs.getLast?+(v27:Int),mn xs.getLast?+(v28:Int),str t29,(v30:Int)+1⟩:aS):=⟨_,rfl⟩;have en:mn xs.getLast? - 1+((v28:Int)+1)=nw.num:=by rw[hnw];show _=mn xs.getLast?+(v28:Int);omega
      have er:a7 xs.getLast?+(v27:Int)=nw.rep:=by rw[hnw]
      rw[en,er]at O I;have el:xs.length+1=(xs++[nw]).length:=by simp
      have hS2:=fQ O el (cs':=(xs++[nw]).flatMap lG) (by clear en er O I;subst hnw;rw[List.flatMap_append];rfl);rw[el]at I;rw[show nw.rep=a7 (xs++[nw]).getLast? from by rw[bH];rfl,show nw.num=mn (xs++[nw]).getLast? - 1 from by rw[bH];show _=nw.num+1-1;omega]at I;cases b30
      ·exact⟨v16-(i+1),by omega,i+1,xs++[nw],A49,c49,a30,false,I,(hS2.p 2).cw [_,_],by omega,by simp;omega,hl30,(by have:=hq.more (by omega) hn27 hn28 hn29 hn30 (by rw[hnx];omega);rw[hnx,←hnw]at this;exact this),(fun _ z hz=>by
       rcases List.mem_append.1 hz with hz | hz
       ·exact hy1 z hz
       ·simp only[List.mem_singleton]at hz;subst hz;rw[hnw];exact⟨by dsimp only;omega,by dsimp only;omega,by dsimp only;omega,by dsimp only;omega⟩),rfl⟩
      ·exact⟨v16-(i+1),by omega,i+1,xs++[nw],A49,c49,a30,true,I,(hS2.p 2).cw [_,_],by omega,by simp;omega,hl30,hq.wk (by omega) (yk hn27 hn28 hn29 hn30),(fun h=>by cases h),rfl⟩
 ·intro h19;have hend:v16≤i∨f1=true:=.inl (by omega);refine uO 13 ?_;intro a I;replace I:=I.kp [0,4,5] rfl;refine rC 3 I ?_;clear I a;refine u1 0 (aa rfl db) ?_;refine j4 0 0 (ld rfl) ?_ ?_
  ·intro h58;refine uO 23 ?_;refine fo ?_;exact .inr ⟨hq.all hend hat1 (.inl h58),rfl,O.nil⟩
  ·intro h58;refine uO 1 ?_;refine u1 0 (aa rfl fp) ?_;refine u1 1 (ld rfl) ?_;refine u1 0 (ak rfl bd) ?_;refine aJ 0 0 (aD rfl rfl) ?_ ?_
   ·intro h64;refine uO 17 ?_;refine fo ?_;exact .inr ⟨hq.all hend hat1 (.inr (.inl (by omega))),rfl,O.nil⟩
   ·intro h64;refine uO 3 ?_;refine iV rfl (lp _ Ae ce xs (O.p 1).rd (by omega)) ?_;rintro e w ⟨rfl,hT⟩;replace O:Sat _ _ _:=O.ag hT;clear hT;generalize h68:bP xs=bb;cases bb
    ·refine u1 12 (aB rfl) ?_;refine fo ?_;exact .inr ⟨hq.all hend hat1 (.inr (.inr h68)),rfl,O.nil⟩
    ·refine u1 14 (aB rfl) ?_;refine fo ?_;subst h58;have hf:=hq.fin hend (by omega);exact .inl ⟨Ae,ce,xs,hf,h68,SE.It hf h68,rfl,gy (O.p 1)⟩
theorem ij (W:World)(A:Option Addr)(c:Nat)(bs:List UInt8)(hb:bs.length≤16777216)(hR:Rd W 1 (.slice A bs.length c) bs.length (bs.map aj)):Calls Tryz.prog 189 #[.slice A (bs).length c] W fun e w'=>(∃(R:jv),fy bs=some (R.d,[])∧bZ R.d=true∧(R.rs.length≤bs.length∧(∀x∈R.rs,x.p.d.vec.length≤16∧x.p.d.ab.length≤bs.length))∧e=.returned (.tuple #[.slice R.a R.rs.length R.c,.int .i64 0])∧Sat W w' [R.ch 206 3 219])∨((∀xs,fy bs=some (xs,[])→bZ xs=false)∧e=.returned (.tuple #[.slice none 0 0,.int .i64 8])∧Sat W w' []):=by
 refine bS Tryz.func189 [0] ?_;have O:=Sat.start W;refine uC 9 ?_;intro a I;refine o1 0 I (ar I rfl xJ) ?_;clear I a;refine uN FG O ?_;clear O;intro b4 w O;refine uW (vs:=[_,_,_]) (cs':=[_,_,_]) rfl rfl EF O ?_;clear O;intro w O;refine uO 9 ?_;intro a I;change Sat W w (a6 b4 (.cells #[.slice A bs.length c,.int .i64 ((0:Nat):Int),.bool false] 352)::_) at O;refine Ht I rfl Fp rfl (cP _ _ _ b4 A c bs 0 false 4000000000 O (by omega) (by omega) (fun w s=>hR.sat s) (by decide) (by decide)) ?_;clear I a;clear O;rintro e w ⟨v11,a11,b11,rfl,O,hn11⟩;obtain⟨hl11,hv11⟩:=hn11.le;have hw11:=hn11.cQ (by omega);refine⟨_,rfl,?_⟩;refine uO 10 ?_;intro a I
 refine wp_loop_ghost (fun (mm:Nat) a w=>∃(i:Nat) (rs:List RL) (Ar:Option Addr) (cr at1:Nat) (f1:Bool),Ag a 52 [(0,.slice A (bs).length c),(4,.pointer (some ⟨b4,0,none⟩)),(5,.slice Ar (rs).length cr),(6,.int .i64 ((v11:Nat):Int)),(7,.int .i64 ((i:Nat):Int))]∧Sat W w ([a6 b4 (.cells #[.slice A bs.length c,.int .i64 (at1:Int),.bool f1] 352),rm 206 Ar cr rs,fN 3 219 rs])∧(i≤v11)∧(rs.length=i)∧(at1≤bs.length)∧(SR bs f1 v11 i at1 (rs.map RL.d))∧(∀x∈rs,x.p.d.vec.length≤16∧x.p.d.ab.length≤bs.length)∧mm=v11-i) v11 ?_ ?_
 ·replace I:=I.kp [0,4,5,6,7] rfl;exact⟨0,[],none,0,a11,b11,I,((O.gX.ba 206 3).p 2),(by omega),(by rfl),(by omega),(by exact SR.start (by omega) hn11),(by intro v hv;cases hv),by omega⟩
 intro m a w hI;clear O I;obtain⟨i,rs,Ar,cr,at1,f1,I,O,hi,hrl,hat1,hq,hsm,rfl⟩:=hI;refine rC 5 I ?_;clear I a;refine aJ 0 0 (aq rfl rfl) ?_ ?_
 ·intro h14;refine uO 1 ?_;refine u1 0 (aa rfl db) ?_;refine j4 0 0 (ld rfl) ?_ ?_
  ·intro h17;have hend:v11≤i∨f1=true:=.inr h17;refine u1 9 (aB rfl) ?_;intro a I;replace I:=I.kp [0,4,5] rfl;refine rC 3 I ?_;clear I a;refine u1 0 (aa rfl db) ?_;refine j4 0 0 (ld rfl) ?_ ?_
   ·intro h38;refine uO 23 ?_;refine fo ?_;exact .inr ⟨hq.all hend hat1 (.inl h38),rfl,O.nil⟩
   ·intro h38;refine uO 1 ?_;refine u1 0 (aa rfl fp) ?_;refine u1 1 (ld rfl) ?_;refine u1 0 (ak rfl bd) ?_;refine aJ 0 0 (aD rfl rfl) ?_ ?_
    ·intro h44;refine uO 17 ?_;refine fo ?_;exact .inr ⟨hq.all hend hat1 (.inr (.inl (by omega))),rfl,O.nil⟩
    ·intro h44;refine uO 3 ?_;refine iV rfl (kF _ Ar cr rs (O.p 1).rd (fun r hr=>oE (O.p 2) r hr) (fun r hr=>by have:=hsm r hr;omega) (by omega)) ?_;rintro e w ⟨rfl,hT⟩;replace O:Sat _ _ _:=O.ag hT;clear hT;refine aJ 0 0 (aD rfl rfl) ?_ ?_
     ·intro h49;refine uO 12 ?_;refine fo ?_;exact .inr ⟨hq.all hend hat1 (.inr (.inr (by simpa using h49))),rfl,O.nil⟩
     ·intro h49;refine uO 14 ?_;refine fo ?_;subst h38;have hg:bZ (rs.map RL.d)=true:=by simpa using h49
      have hf:=hq.fin hend (by omega);obtain⟨hf1,hf2⟩:=SR.small hf hg;rw[List.length_map]at hf1;exact .inl ⟨(⟨Ar,cr,rs⟩:jv),hf,hg,⟨hf1,hsm⟩,rfl,gy (nm ((O.p 2).p 2))⟩
  ·intro h17;intro a I;subst h17;refine o1 10 I (aB (I.ev rfl)) ?_;clear I a;refine uF rfl (oG _ _ _ b4 A c bs at1 false 24 O (by omega) (by omega) (fun w s=>hR.sat s) (by decide) (by decide)) ?_;clear O;rintro e w ⟨t22,a22,b22,rfl,O,hn22⟩;have hl22:=hn22.1;refine uO 7 ?_;refine uF rfl (oK _ _ _ b4 A c bs a22 b22 O (by omega) (by omega) (fun w s=>hR.sat s)) ?_;clear O;rintro e w ⟨q25,a25,b25,rfl,O,hn25⟩;have hl25:=hn25.1;intro a I;refine o1 0 I (ar I rfl jx) ?_;clear I a;intro a I;refine gF (vss:=[[_,_,_]]) I rfl rfl dk lW rfl rfl rfl (by simp) rfl O ?_;clear I a O;intro A27 w O;intro a I;refine dq I rfl rfl rfl dk lW rfl (O.p 4) (O.rd.src dk (by simp[Value.oneCell'])) (by omega) (by omega) ?_;clear I a O;intro A28 c28 w hc28 O;refine uO 6 ?_;refine aJ 0 0 (x9 rfl rfl) ?_ ?_
   ·intro h30;refine uO 2 ?_;refine iV rfl (ft _ (str t22)) ?_;rintro e w ⟨rfl,hT⟩;replace O:Sat _ _ _:=O.ag hT;clear hT;generalize h33:lE _=bb;cases bb
    ·refine u1 5 (aB rfl) ?_;refine u1 0 (aa rfl db) ?_;intro a I;refine fS (cs':=[_,_,_]) I rfl rfl tA wq rfl (O.p 2) rfl rfl ?_;clear O;intro w O;refine rO 5 I ?_;clear I a;refine u1 2 (ad rfl rfl) ?_;intro a I;replace I:=I.kp [0,4,5,6,7] rfl;have em:rs.map RL.d++[(⟨str t22,q25.d⟩:bK)]=(rs++[(⟨str t22,q25⟩:RL)]).map RL.d:=by rw[List.map_append];rfl
     have el:rs.length+1=(rs++[(⟨str t22,q25⟩:RL)]).length:=by simp
     have hS2:=fQ (O.p 1) el (cs':=(rs++[(⟨str t22,q25⟩:RL)]).flatMap js) (by rw[List.flatMap_append];rfl);have hS3:=gB (str t22) q25 ((((((hS2.p 2).p 2).p 2).p 5).p 5).p 5);rw[el]at I;refine⟨v11-(i+1),by omega,i+1,rs++[(⟨str t22,q25⟩:RL)],A28,c28,a25,true,I,((hS3.p 1).p 2).cw [_,_,_],by omega,by simp;omega,hl25,(by rw[←em];exact hq.wk (by omega) hn22 hn25 (.inr ⟨h30,h33⟩)),?_,rfl⟩;intro z hz;rcases List.mem_append.1 hz with hz | hz
     ·exact hsm z hz
     ·simp only[List.mem_singleton]at hz;subst hz;exact⟨hn25.2.1,hn25.2.2.1⟩
    ·refine u1 9 (aB rfl) ?_;refine u1 2 (ad rfl rfl) ?_;intro a I;replace I:=I.kp [0,4,5,6,7] rfl;have em:rs.map RL.d++[(⟨str t22,q25.d⟩:bK)]=(rs++[(⟨str t22,q25⟩:RL)]).map RL.d:=by rw[List.map_append];rfl
     have el:rs.length+1=(rs++[(⟨str t22,q25⟩:RL)]).length:=by simp
     have hS2:=fQ O el (cs':=(rs++[(⟨str t22,q25⟩:RL)]).flatMap js) (by rw[List.flatMap_append];rfl);have hS3:=gB (str t22) q25 ((((((hS2.p 1).p 2).p 2).p 5).p 5).p 5);rw[el]at I;cases b25
     ·refine⟨v11-(i+1),by omega,i+1,rs++[(⟨str t22,q25⟩:RL)],A28,c28,a25,false,I,((hS3.p 1).p 2).cw [_,_,_],by omega,by simp;omega,hl25,(by rw[←em];exact hq.more (by omega) hn22 hn25),?_,rfl⟩;intro z hz;rcases List.mem_append.1 hz with hz | hz
      ·exact hsm z hz
      ·simp only[List.mem_singleton]at hz;subst hz;exact⟨hn25.2.1,hn25.2.2.1⟩
     ·refine⟨v11-(i+1),by omega,i+1,rs++[(⟨str t22,q25⟩:RL)],A28,c28,a25,true,I,((hS3.p 1).p 2).cw [_,_,_],by omega,by simp;omega,hl25,(by rw[←em];exact hq.wk (by omega) hn22 hn25 (.inl rfl)),?_,rfl⟩;intro z hz;rcases List.mem_append.1 hz with hz | hz
      ·exact hsm z hz
      ·simp only[List.mem_singleton]at hz;subst hz;exact⟨hn25.2.1,hn25.2.2.1⟩
   ·intro h30;refine uO 13 ?_;refine u1 2 (ad rfl rfl) ?_;intro a I;replace I:=I.kp [0,4,5,6,7] rfl;have em:rs.map RL.d++[(⟨str t22,q25.d⟩:bK)]=(rs++[(⟨str t22,q25⟩:RL)]).map RL.d:=by rw[List.map_append];rfl
    have el:rs.length+1=(rs++[(⟨str t22,q25⟩:RL)]).length:=by simp
    have hS2:=fQ O el (cs':=(rs++[(⟨str t22,q25⟩:RL)]).flatMap js) (by rw[List.flatMap_append];rfl);have hS3:=gB (str t22) q25 ((((((hS2.p 1).p 2).p 2).p 5).p 5).p 5);rw[el]at I;cases b25
    ·refine⟨v11-(i+1),by omega,i+1,rs++[(⟨str t22,q25⟩:RL)],A28,c28,a25,false,I,((hS3.p 1).p 2).cw [_,_,_],by omega,by simp;omega,hl25,(by rw[←em];exact hq.more (by omega) hn22 hn25),?_,rfl⟩;intro z hz;rcases List.mem_append.1 hz with hz | hz
     ·exact hsm z hz
     ·simp only[List.mem_singleton]at hz;subst hz;exact⟨hn25.2.1,hn25.2.2.1⟩
    ·refine⟨v11-(i+1),by omega,i+1,rs++[(⟨str t22,q25⟩:RL)],A28,c28,a25,true,I,((hS3.p 1).p 2).cw [_,_,_],by omega,by simp;omega,hl25,(by rw[←em];exact hq.wk (by omega) hn22 hn25 (.inl rfl)),?_,rfl⟩;intro z hz;rcases List.mem_append.1 hz with hz | hz
     ·exact hsm z hz
     ·simp only[List.mem_singleton]at hz;subst hz;exact⟨hn25.2.1,hn25.2.2.1⟩
 ·intro h14;have hend:v11≤i∨f1=true:=.inl (by omega);refine uO 13 ?_;intro a I;replace I:=I.kp [0,4,5] rfl;refine rC 3 I ?_;clear I a;refine u1 0 (aa rfl db) ?_;refine j4 0 0 (ld rfl) ?_ ?_
  ·intro h38;refine uO 23 ?_;refine fo ?_;exact .inr ⟨hq.all hend hat1 (.inl h38),rfl,O.nil⟩
  ·intro h38;refine uO 1 ?_;refine u1 0 (aa rfl fp) ?_;refine u1 1 (ld rfl) ?_;refine u1 0 (ak rfl bd) ?_;refine aJ 0 0 (aD rfl rfl) ?_ ?_
   ·intro h44;refine uO 17 ?_;refine fo ?_;exact .inr ⟨hq.all hend hat1 (.inr (.inl (by omega))),rfl,O.nil⟩
   ·intro h44;refine uO 3 ?_;refine iV rfl (kF _ Ar cr rs (O.p 1).rd (fun r hr=>oE (O.p 2) r hr) (fun r hr=>by have:=hsm r hr;omega) (by omega)) ?_;rintro e w ⟨rfl,hT⟩;replace O:Sat _ _ _:=O.ag hT;clear hT;refine aJ 0 0 (aD rfl rfl) ?_ ?_
    ·intro h49;refine uO 12 ?_;refine fo ?_;exact .inr ⟨hq.all hend hat1 (.inr (.inr (by simpa using h49))),rfl,O.nil⟩
    ·intro h49;refine uO 14 ?_;refine fo ?_;subst h38;have hg:bZ (rs.map RL.d)=true:=by simpa using h49
     have hf:=hq.fin hend (by omega);obtain⟨hf1,hf2⟩:=SR.small hf hg;rw[List.length_map]at hf1;exact .inl ⟨(⟨Ar,cr,rs⟩:jv),hf,hg,⟨hf1,hsm⟩,rfl,gy (nm ((O.p 2).p 2))⟩
theorem xn {k:Nat}{d:iR}(hk:k≤2):(cC k d)[0]?=some (UInt8.ofNat k):=by
 unfold cC;rw[ey (by omega)];rfl
theorem FL {k:Nat}{f:iR→Bool}{bs:List UInt8}(hk:k≤2)(h:bs.length=0):my k f bs:=fun d _ e=>by
 have:=xn (d:=d) hk;rw[←e,List.eq_nil_of_length_eq_zero h]at this;cases this
theorem D0 {k:Nat}{f:iR→Bool}{bs:List UInt8}{x:UInt8}(hk:k≤2)(hx:bs[0]?=some x)(h:(x.toNat:Int)≠(k:Int)):my k f bs:=fun d _ e=>by
 have:=xn (d:=d) hk;rw[←e,hx]at this
 injection this with this
 subst this;rw[UInt8.toNat_ofNat']at h;omega
theorem CY {k:Nat}{bs:List UInt8}{x:UInt8}(hk:k≤2)(hx:bs[0]?=some x)(h:(x.toNat:Int)=(k:Int)):bh 2 bs=some (k,bs.drop 1):=by
 refine aW.2 ⟨?_,by omega,by omega⟩;have hd:=rl hx;rw[List.drop_zero]at hd;rw[ey (by omega)];have:x=UInt8.ofNat k:=by apply UInt8.toNat_inj.1;rw[UInt8.toNat_ofNat'];omega
 conv=>lhs;rw[hd]
 rw[this];rfl
theorem nd {bs:List UInt8}{i v n:Nat}(h:dr bs i=(v,n,0))(h2:n+v≤bs.length):cy 9223372036854775807 (bs.drop i)=some ((bs.drop n).take v,bs.drop (n+v)):=by
 have:=dP h;exact B2 (eR h (by omega)) h2
theorem ln {bs:List UInt8}{i v n e:Nat}(h:dr bs i=(v,n,e))(he:e≠0):cy 9223372036854775807 (bs.drop i)=none:=BZ (nh (by rw[h];exact he))
theorem jX {bs:List UInt8}{i v n e:Nat}(h:dr bs i=(v,n,e))(he:e=0)(h2:bs.length<n+v):cy 9223372036854775807 (bs.drop i)=none:=by
 subst he;have:=dP h;exact CE (eR h (by omega)) (by rw[List.length_drop];omega)
theorem mM {bs:List UInt8}{i v n e:Nat}(h:dr bs i=(v,n,e)):v≤9223372036854775807∧n≤bs.length:=by
 by_cases he:e=0
 ·
  subst he;have:=dP h;omega
 ·
  have:=Ge (bs:=bs) (i:=i) (by rw[h];exact he);rw[h]at this;simp only at this;omega
theorem mQ {bs:List UInt8}{n v:Nat}(h:n+v≤bs.length):((bs.drop n).take v).length=v:=by rw[List.length_take,List.length_drop];omega
theorem wM {α:Type}{xs ys:List α}(h:xs.length=ys.length)(he:∀j,j<xs.length→xs[j]?=ys[j]?):xs=ys:=by
 refine List.ext_getElem? fun j=>?_;rcases Nat.lt_or_ge j xs.length with hj | hj
 ·
  exact he j hj
 ·
  rw[List.getElem?_eq_none hj,List.getElem?_eq_none (by omega)]
theorem gz (W:World)(A:Option Addr)(c:Nat)(xs:List UInt8)(B:Option Addr)(d:Nat)(ys:List UInt8)(hX:Rd W 1 (.slice A xs.length c) xs.length (xs.map aj))(hY:Rd W 1 (.slice B ys.length d) ys.length (ys.map aj))(hl:xs.length≤1000000000000):Calls Tryz.prog 13 #[.slice A (xs).length c,.slice B (ys).length d] W fun e w'=>e=.returned (.bool (decide (xs=ys)))∧Sat W w' []:=by
 refine bS Tryz.func13 [0,1] ?_;have O:=Sat.start W;refine uC 9 ?_;refine u1 1 (ak rfl bd) ?_;refine u1 0 (ak rfl bd) ?_;refine aJ 0 0 (aD rfl rfl) ?_ ?_
 ·intro h10;refine uO 10 ?_;refine aY ?_;rw[decide_eq_false fun e=>(by rw[e]at h10;omega)];exact⟨rfl,O⟩
 ·intro h10;refine uO 12 ?_;intro a I;refine wp_loop_ghost (fun (mm:Nat) a w=>∃(i:Nat),Ag a 26 [(0,.slice A (xs).length c),(1,.slice B (ys).length d),(5,.int .i64 ((i:Nat):Int))]∧Sat W w ([])∧(i≤xs.length)∧(∀j,j<i→xs[j]?=ys[j]?)∧mm=xs.length-i) xs.length ?_ ?_
  ·replace I:=I.kp [0,1,5] rfl;exact⟨0,I,O,(by omega),(by intro j hj;omega),by omega⟩
  intro m a w hI;clear O I;obtain⟨i,I,O,hi,he,rfl⟩:=hI;refine rC 5 I ?_;clear I a;refine u1 0 (ak rfl bd) ?_;refine aJ 0 0 (aq rfl rfl) ?_ ?_
  ·intro h14;refine uO 8 ?_;intro a I;refine cF (fun w'=>Sat _ w' _) (by kernel_rfl) (by kernel_rfl) O.drew ?_;refine rQ 2 I ?_;clear I a;obtain⟨A_p,rfl⟩:∃q,A=some q:=(hX.sat O).au (by omega);obtain⟨x,hx⟩:∃zz_,xs[i]?=some zz_:=⟨_,List.getElem?_eq_getElem (by omega)⟩;refine bj 0 (fun w O=>(ix rfl rfl bd sL)) ?_;refine bj 2 (fun w O=>(an rfl Az (fP (hX.sat O) (bu hx)))) ?_;obtain⟨B_p,rfl⟩:∃q,B=some q:=(hY.sat O).au (by omega);obtain⟨y,hy⟩:∃zz_,ys[i]?=some zz_:=⟨_,List.getElem?_eq_getElem (by omega)⟩;refine bj 0 (fun w O=>(ix rfl rfl bd sL)) ?_;refine bj 0 (fun w O=>(an rfl Az (fP (hY.sat O) (bu hy)))) ?_;intro a I;refine K.sE I rfl rfl rfl (fun w O=>(aD (I.ev rfl) (I.ev rfl))) ?_ ?_
   ·clear I a;intro h25;intro a I;refine wpQuiet_nil ?_;clear O;intro w O;refine rE 13 I ?_;clear I a;refine aY ?_;rw[decide_eq_false fun e=>(by rw[e]at hx;rw[hx]at hy;cases hy;omega)];exact⟨rfl,O⟩
   ·clear I a;intro h25;intro a I;refine wpQuiet_nil ?_;clear O;intro w O;refine rE 7 I ?_;clear I a;refine u1 2 (ad rfl rfl) ?_;intro a I;replace I:=I.kp [0,1,5] rfl;exact⟨xs.length-(i+1),by omega,i+1,I,O,by omega,fun j hj=>(by rcases Nat.lt_or_ge j i with h | h;exact he j h;obtain rfl:j=i:=(by omega);rw[hx,hy];congr 1;apply UInt8.toNat_inj.1;omega),rfl⟩
  ·intro h14;refine uO 8 ?_;intro a I;replace I:=I.kp [] rfl;refine rC 6 I ?_;clear I a;refine aY ?_;rw[decide_eq_true (wM (by omega) (fun j hj=>he j (by omega)))];exact⟨rfl,O⟩
theorem kZ (W w:World)(L:List As)(A:Option Addr)(c:Nat)(bs:List UInt8)(B:Option Addr)(d:Nat)(b:List UInt8)(O:Sat W w (row 5 1 (.slice A (bs).length c) (bs).length ((bs).map aj)::L))(hY:∀w M,Sat W w (M++L)→Rd w 1 (.slice B b.length d) b.length (b.map aj))(hb:b.length≤100000000000)(hl:bs.length≤100000000000000):Calls Tryz.prog 185 #[.slice A (bs).length c,.slice B (b).length d] w fun e w'=>∃A' c',e=.returned (.slice A' (bs++fr b).length c')∧Sat W w' (row 5 1 (.slice A' (bs++fr b).length c') (bs++fr b).length ((bs++fr b).map aj)::L):=by
 refine bS Tryz.func185 [0,1] ?_;have h9:=cB (n:=b.length) (by omega);refine uC 8 ?_;refine u1 0 (ak rfl bd) ?_;refine uF rfl (rD _ b.length (by omega)) ?_;rintro e w ⟨A10,c10,rfl,hT⟩;replace O:=O.aM hT;clear hT;refine uO 10 ?_;intro a I;refine wp_loop_ghost (fun (mm:Nat) a w=>∃(i:Nat) (out:List UInt8) (Ao:Option Addr) (co:Nat),Ag a 38 [(0,.slice Ao (out).length co),(1,.slice B (b).length d),(5,.slice A10 ((aV b.length)).length c10),(6,.int .i64 ((i:Nat):Int))]∧Sat W w (row 5 1 (.slice Ao (out).length co) (out).length ((out).map aj)::row 5 1 (.slice A10 ((aV b.length)).length c10) ((aV b.length)).length (((aV b.length)).map aj)::L)∧(i≤((aV b.length)).length)∧(out=bs++((aV b.length)).take i)∧(out.length=bs.length+i)∧mm=((aV b.length)).length-i) ((aV b.length)).length ?_ ?_
 ·replace I:=I.kp [0,1,5,6] rfl;exact⟨0,_,_,_,I,(O.p 1),(by omega),(by simp),(by omega),by omega⟩
 intro m a w hI;clear O I;obtain⟨i,out,Ao,co,I,O,hi,ho,hol,rfl⟩:=hI;refine rC 5 I ?_;clear I a;refine u1 0 (ak rfl bd) ?_;refine aJ 0 0 (aq rfl rfl) ?_ ?_
 ·intro h14;refine uO 11 ?_;obtain⟨A10_p,rfl⟩:∃q,A10=some q:=(O.p 1).rd.au (by omega);obtain⟨x,hx⟩:∃zz_,(aV b.length)[i]?=some zz_:=⟨_,List.getElem?_eq_getElem (by omega)⟩;refine u1 0 (ix rfl rfl bd sL) ?_;refine u1 0 (an rfl Az (fP (O.p 1).rd (bu hx))) ?_;intro a I;refine nZ I rfl rfl bd mX rfl rfl rfl (by simp[Value.oneCell',aj]) O ?_;clear I a O;intro A22 w O;intro a I;refine dq I rfl rfl rfl bd mX rfl (O.p 1) (O.rd.src bd (by simp[Value.oneCell',aj])) (by omega) (by omega) ?_;clear I a O;intro A23 c23 w hc23 O;refine uO 6 ?_;refine u1 2 (ad rfl rfl) ?_;intro a I;replace I:=I.kp [0,1,5,6] rfl;have e1:(out).map aj++[aj x]=(out++[x]).map aj:=by simp
  have e2:(out).length+1=(out++[x]).length:=by simp
  rw[e1,e2]at O;rw[e2]at I;clear e1 e2;refine⟨((aV b.length)).length-(i+1),by omega,i+1,out++[x],_,_,I,(O.p 1).drop,by omega,?_,by simp only[List.length_append,List.length_cons,List.length_nil];omega,rfl⟩;rw[ho,aF hx,List.append_assoc]
 ·intro h14;refine uO 15 ?_;intro a I;refine wp_loop_ghost (fun (mm:Nat) a w=>∃(j:Nat) (out:List UInt8) (Ao:Option Addr) (co:Nat),Ag a 38 [(0,.slice Ao (out).length co),(1,.slice B (b).length d),(7,.int .i64 ((j:Nat):Int))]∧Sat W w (row 5 1 (.slice Ao (out).length co) (out).length ((out).map aj)::row 5 1 (.slice A10 ((aV b.length)).length c10) ((aV b.length)).length (((aV b.length)).map aj)::L)∧(j≤b.length)∧(out=bs++((aV b.length)++b.take j))∧(out.length=bs.length+((aV b.length)).length+j)∧mm=b.length-j) b.length ?_ ?_
  ·replace I:=I.kp [0,1,7] rfl;exact⟨0,_,_,_,I,O,(by omega),(by rw[ho,List.take_of_length_le (by omega)];simp),(by omega),by omega⟩
  intro m a w hI;clear O I;obtain⟨j,out,Ao,co,I,O,hj,ho2,hol2,rfl⟩:=hI;refine rC 5 I ?_;clear I a;refine u1 0 (ak rfl bd) ?_;refine aJ 0 0 (aq rfl rfl) ?_ ?_
  ·intro h27;refine uO 11 ?_;obtain⟨B_p,rfl⟩:∃q,B=some q:=(hY _ [_,_] O).au (by omega);obtain⟨y,hy⟩:∃zz_,b[j]?=some zz_:=⟨_,List.getElem?_eq_getElem (by omega)⟩;refine u1 0 (ix rfl rfl bd sL) ?_;refine u1 0 (an rfl Az (fP (hY _ [_,_] O) (bu hy))) ?_;intro a I;refine nZ I rfl rfl bd mX rfl rfl rfl (by simp[Value.oneCell',aj]) O ?_;clear I a O;intro A35 w O;intro a I;refine dq I rfl rfl rfl bd mX rfl (O.p 1) (O.rd.src bd (by simp[Value.oneCell',aj])) (by omega) (by omega) ?_;clear I a O;intro A36 c36 w hc36 O;refine uO 6 ?_;refine u1 2 (ad rfl rfl) ?_;intro a I;replace I:=I.kp [0,1,7] rfl;have e1:(out).map aj++[aj y]=(out++[y]).map aj:=by simp
   have e2:(out).length+1=(out++[y]).length:=by simp
   rw[e1,e2]at O;rw[e2]at I;clear e1 e2;refine⟨b.length-(j+1),by omega,j+1,out++[y],_,_,I,(O.p 1).drop,by omega,?_,by simp only[List.length_append,List.length_cons,List.length_nil];omega,rfl⟩;rw[ho2,aF hy];simp only[List.append_assoc]
  ·intro h27;refine uO 8 ?_;intro a I;replace I:=I.kp [0] rfl;refine rC 7 I ?_;clear I a;refine aY ?_;obtain rfl:j=b.length:=by omega
   rw[List.take_length]at ho2;have ho2:out=bs++fr b:=ho2;subst ho2;exact⟨_,_,rfl,(O.p 1).drop⟩
theorem pd {W w:World}{L:List As}:∀ {M:List As},Sat W w (M++L)→Sat W w L
 | [],h=>h
 | _::_,h=>pd (Sat.drop h)
theorem rL (W:World)(k:Nat)(ea:Option Addr)(ec:Nat)(es:List aS)(p:PL)(ra:Option Addr)(rc:Nat)(rs:List RL)(hk:k≤2)(he:iz W ea ec es)(hpp:p.ok W)(hrt:iF W ra rc rs)(hre:∀r∈rs,r.p.ok W)(hel:es.length≤16777216)(hpv:p.d.vec.length≤1000000000000)(hpc:p.d.ab.length≤16777216)(hrv:∀r∈rs,r.p.d.vec.length≤1000000000000)(hrs:dm (rs.map fun r=>r.p.d)≤16777216)(hE1:bP es=true)(hE2:bg p.d=true)(hE3:bZ (rs.map RL.d)=true):Calls Tryz.prog 142 #[.int .u8 (k:Int),.slice ea (es).length ec,.agg #[.slice p.va p.d.vec.length p.vc,.slice p.ca p.d.ab.length p.cc],.slice ra (rs).length rc] W fun e w'=>∃A' c',e=.returned (.slice A' (cC k ⟨es,p.d,rs.map RL.d⟩).length c')∧Sat W w' [row 5 1 (.slice A' (cC k ⟨es,p.d,rs.map RL.d⟩).length c') (cC k ⟨es,p.d,rs.map RL.d⟩).length ((cC k ⟨es,p.d,rs.map RL.d⟩).map aj)]:=by
 refine bS Tryz.func142 [0,1,2,3] ?_;have O:=Sat.start W;have hk1:=tO (o9 hE1) (by omega);have hk2:=ss (jT.1 hE2).toDP (by omega);have hk3:=p8 (fX hE3) (by rw[kS];omega);intro a I;rw[kS]at hk3;have hk4:=nine (n:=(fb es).length) (by omega);have hk5:=nine (n:=(eH p.d).length) (by omega);refine rC 2 I ?_;clear I a;refine uB rfl O ?_;clear O;intro b6 w O;refine uO 6 ?_;refine uF rfl (s9 _ ea ec es (he.sat O) (by omega)) ?_;rintro e w ⟨A18,c18,he,hT⟩;simp only[hE1,if_true]at he hT;subst he;replace O:=O.aM hT;clear hT;refine uO 1 ?_;refine u1 0 (ai rfl rfl) ?_;refine u1 6 (ai rfl rfl) ?_;refine u1 0 (lS (cs:=[_,_]) rfl) ?_;refine uF rfl (ti _ p (hpp.sat O) hpv (by omega)) ?_;rintro e w ⟨A23,c23,he,hT⟩;simp only[hE2,if_true]at he hT;subst he;replace O:=O.aM hT;clear hT
 refine uO 1 ?_;refine u1 0 (ai rfl rfl) ?_;refine u1 7 (ai rfl rfl) ?_;refine uF rfl (td _ ra rc rs (hrt.sat O) (fun r h=>(hre r h).sat O) ((gV hrv hrs).mono (by decide)) (by omega)) ?_;rintro e w ⟨A28,c28,he,hT⟩;simp only[hE3,if_true]at he hT;subst he;replace O:=O.aM hT;clear hT;refine uO 1 ?_;refine u1 0 (ai rfl rfl) ?_;refine u1 7 (ai rfl rfl) ?_;intro a I;refine nZ I rfl rfl bd mX rfl rfl rfl (by simp[Value.oneCell']) O ?_;clear I a O;intro A32 w O;intro a I;rw[show Value.int .u8 (k:Int)=aj (UInt8.ofNat k) from kV (by omega)]at O;change Sat W w (row 5 1 (.slice A32 ([UInt8.ofNat k]).length 1) ([UInt8.ofNat k]).length (([UInt8.ofNat k]).map aj)::_) at O;have hnk:aV k=[UInt8.ofNat k]:=ey (by omega);refine rO 3 I ?_;clear I a;intro a I;replace I:=I.kp [8,9,11,13,15] rfl;refine rC 4 I ?_;clear I a
 refine uF rfl (kZ _ _ _ A32 1 [UInt8.ofNat k] A18 c18 (fb es) O (fun w M s=>((pd s).p 2).rd) (by omega) (by simp only[fr,List.length_append,List.length_cons,List.length_nil];omega)) ?_;clear O;rintro e w ⟨Af0,cf0,rfl,O⟩;refine uO 7 ?_;refine uF rfl (kZ _ _ _ _ _ _ A23 c23 (eH p.d) O (fun w M s=>((pd s).p 1).rd) (by omega) (by simp only[fr,List.length_append,List.length_cons,List.length_nil];omega)) ?_;clear O;rintro e w ⟨Af1,cf1,rfl,O⟩;refine uO 7 ?_;refine uF rfl (kZ _ _ _ _ _ _ A28 c28 (dO (rs.map RL.d)) O (fun w M s=>(pd s).rd) (by omega) (by simp only[fr,List.length_append,List.length_cons,List.length_nil];omega)) ?_;clear O;rintro e w ⟨Af2,cf2,rfl,O⟩;refine uO 4 ?_;refine aY ?_
 have ho:([UInt8.ofNat k]:List UInt8)++fr (fb es)++fr (eH p.d)++fr (dO (rs.map RL.d))=cC k ⟨es,p.d,rs.map RL.d⟩:=by unfold cC;rw[hnk];simp only[List.append_assoc]
 rw[ho]at O ⊢;exact⟨_,_,rfl,gy O⟩
theorem rb (W:World)(s:SL)(hp:s.ok W)(hs:kQ s):Calls Tryz.prog 86 #[.agg #[.slice s.e.a s.e.es.length s.e.c,.slice s.p.va s.p.d.vec.length s.p.vc,.slice s.p.ca s.p.d.ab.length s.p.cc,.slice s.r.a s.r.rs.length s.r.c]] W fun e w'=>∃A' c',e=.returned (.tuple #[.slice A' (jw aH 1 s.d).length c',.int .i64 (wV aH s.d)])∧Sat W w' [row 5 1 (.slice A' (jw aH 1 s.d).length c') (jw aH 1 s.d).length ((jw aH 1 s.d).map aj)]:=by
 refine bS Tryz.func86 [0] ?_;have O:=Sat.start W;obtain⟨⟨ea,ec,es⟩,p,⟨ra,rc,rs⟩⟩:=s;have he:iz W ea ec es:=hp.e;have hpp:p.ok W:=hp.p;have hrt:iF W ra rc rs:=hp.r.top;have hre:∀r∈rs,r.p.ok W:=hp.r.each;have hel:es.length≤16777216:=hs.es;have hpv:p.d.vec.length≤1000000000000:=hs.pv;have hpc:p.d.ab.length≤16777216:=hs.pc;have hrs:dm (rs.map fun r=>r.p.d)≤16777216:=hs.rs;have hrb:ew 10000000000 rs:=(gV hs.rv hrs).mono (by decide);have hrl:=nr hrs;refine uC 2 ?_;refine uB rfl O ?_;clear O;intro b1 w O;refine uO 7 ?_;refine u1 0 (lS (cs:=[_,_,_,_]) rfl) ?_;refine uF rfl (pQ _ ⟨⟨ea,ec,es⟩,p,⟨ra,rc,rs⟩⟩ (hp.sat O) hs) ?_;rintro e w ⟨rfl,hT⟩;replace O:Sat _ _ _:=O.ag hT;clear hT;cases h5:aH (SL.d ⟨⟨ea,ec,es⟩,p,⟨ra,rc,rs⟩⟩)
 ·rw[if_neg (by decide)];refine aJ 0 0 (aD rfl rfl) ?_ ?_
  ·intro h6;refine uO 11 ?_;refine fo ?_;rw[mx h5,qK h5];exact⟨none,0,rfl,gy (O.ba 5 1)⟩
  ·intro h6;intro a I;contradiction
 ·rw[if_pos rfl];refine aJ 0 0 (aD rfl rfl) ?_ ?_
  ·intro h6;intro a I;contradiction
  ·intro h6;refine uO 7 ?_;refine u1 0 (aa rfl vP) ?_;refine u1 0 (ld rfl) ?_;refine u1 0 (aa rfl vI) ?_;refine u1 0 (lS (cs:=[_,_]) rfl) ?_;refine u1 0 (aa rfl vv) ?_;refine u1 0 (ld rfl) ?_;refine uF rfl (rL _ 1 ea ec es p ra rc rs (by decide) (he.sat O) (hpp.sat O) (hrt.sat O) (fun r h=>(hre r h).sat O) hel hpv hpc hs.rv hrs (aA h5).1 (aA h5).2.1 (aA h5).2.2) ?_;rintro e w ⟨A13,c13,rfl,hT⟩;replace O:=O.aM hT;clear hT;refine uO 5 ?_;refine fo ?_;rw[kM h5,pe h5];exact⟨A13,c13,rfl,gy O⟩
theorem sg (W:World)(s:SL)(hp:s.ok W)(hs:kQ s):Calls Tryz.prog 87 #[.agg #[.slice s.e.a s.e.es.length s.e.c,.slice s.p.va s.p.d.vec.length s.p.vc,.slice s.p.ca s.p.d.ab.length s.p.cc,.slice s.r.a s.r.rs.length s.r.c]] W fun e w'=>∃A' c',e=.returned (.tuple #[.slice A' (jw bD 2 s.d).length c',.int .i64 (wV bD s.d)])∧Sat W w' [row 5 1 (.slice A' (jw bD 2 s.d).length c') (jw bD 2 s.d).length ((jw bD 2 s.d).map aj)]:=by
 refine bS Tryz.func87 [0] ?_;have O:=Sat.start W;obtain⟨⟨ea,ec,es⟩,p,⟨ra,rc,rs⟩⟩:=s;have he:iz W ea ec es:=hp.e;have hpp:p.ok W:=hp.p;have hrt:iF W ra rc rs:=hp.r.top;have hre:∀r∈rs,r.p.ok W:=hp.r.each;have hel:es.length≤16777216:=hs.es;have hpv:p.d.vec.length≤1000000000000:=hs.pv;have hpc:p.d.ab.length≤16777216:=hs.pc;have hrs:dm (rs.map fun r=>r.p.d)≤16777216:=hs.rs;have hrb:ew 10000000000 rs:=(gV hs.rv hrs).mono (by decide);have hrl:=nr hrs;refine uC 2 ?_;refine uB rfl O ?_;clear O;intro b1 w O;refine uO 7 ?_;refine u1 0 (lS (cs:=[_,_,_,_]) rfl) ?_;refine uF rfl (pU _ ⟨⟨ea,ec,es⟩,p,⟨ra,rc,rs⟩⟩ (hp.sat O) hs) ?_;rintro e w ⟨rfl,hT⟩;replace O:Sat _ _ _:=O.ag hT;clear hT;cases h5:bD (SL.d ⟨⟨ea,ec,es⟩,p,⟨ra,rc,rs⟩⟩)
 ·rw[if_neg (by decide)];refine aJ 0 0 (aD rfl rfl) ?_ ?_
  ·intro h6;refine uO 11 ?_;refine fo ?_;rw[mx h5,qK h5];exact⟨none,0,rfl,gy (O.ba 5 1)⟩
  ·intro h6;intro a I;contradiction
 ·rw[if_pos rfl];have hFf:=cT h5;refine aJ 0 0 (aD rfl rfl) ?_ ?_
  ·intro h6;intro a I;contradiction
  ·intro h6;refine uO 7 ?_;refine u1 0 (aa rfl lz) ?_;refine u1 0 (ld rfl) ?_;refine u1 0 (aa rfl ni) ?_;refine u1 0 (lS (cs:=[_,_]) rfl) ?_;refine u1 0 (aa rfl lD) ?_;refine u1 0 (ld rfl) ?_;refine uF rfl (rL _ 2 ea ec es p ra rc rs (by decide) (he.sat O) (hpp.sat O) (hrt.sat O) (fun r h=>(hre r h).sat O) hel hpv hpc hs.rv hrs (aA hFf).1 (aA hFf).2.1 (aA hFf).2.2) ?_;rintro e w ⟨A13,c13,rfl,hT⟩;replace O:=O.aM hT;clear hT;refine uO 5 ?_;refine fo ?_;rw[kM h5,pe h5];exact⟨A13,c13,rfl,gy O⟩
theorem rM (W:World)(k:Nat)(A:Option Addr)(c:Nat)(bs:List UInt8)(hk:k≤2)(hb:bs.length≤16777216)(hR:Rd W 1 (.slice A bs.length c) bs.length (bs.map aj)):Calls Tryz.prog 147 #[.slice A (bs).length c,.int .u8 (k:Int)] W fun e w'=>(∃s:SL,bs=cC k s.d∧aH s.d=true∧kQ s∧e=.returned (.tuple #[.slice s.e.a s.e.es.length s.e.c,.agg #[.slice s.p.va s.p.d.vec.length s.p.vc,.slice s.p.ca s.p.d.ab.length s.p.cc],.slice s.r.a s.r.rs.length s.r.c,.bool true])∧Sat W w' [fJ 216 s.e.a s.e.c s.e.es,cq 3 s.p.va s.p.vc s.p.d.vec,bp 219 s.p.ca s.p.cc s.p.d.ab,s.r.ch 206 3 219])∨((∀f:iR→Bool,(∀d,f d=true→aH d=true)→my k f bs)∧∃(A1:Option Addr) (n1 c1:Nat) (z:PL) (A3:Option Addr) (n3 c3:Nat),e=.returned (.tuple #[.slice A1 n1 c1,.agg #[.slice z.va z.d.vec.length z.vc,.slice z.ca z.d.ab.length z.cc],.slice A3 n3 c3,.bool false])∧Sat W w' []):=by
 refine bS Tryz.func147 [0,1] ?_;have O:=Sat.start W;have hL:bs.length≤9223372036854775807:=(by omega);obtain⟨_,c_,hc0,hcc⟩:=hR.form;have hcc:bs.length≤c:=by injection hc0;omega
 refine uC 3 ?_;refine uN cY O ?_;clear O;intro b5 w O;refine uO 8 ?_;refine u1 0 (ak rfl bd) ?_;refine aJ 0 0 (aU rfl rfl) ?_ ?_
 ·intro h22;refine uO 12 ?_;intro a I;refine o1 1 I (ar I rfl l5) ?_;clear I a;refine uW (vs:=[_,_]) (cs':=[_,_]) rfl rfl aO O ?_;clear O;intro w O;refine uO 6 ?_;intro a I;refine ej I rfl (aQ I rfl) (br (cs:=[_,_]) I rfl cS aO (by exact O.ao (xs:=[_,_]) rfl)) (aQ I rfl) (aQ I rfl) ?_;exact .inr ⟨(fun f hff=>FL hk (by omega)),_,_,_,⟨none,0,none,0,⟨[],[]⟩⟩,_,_,_,rfl,O.nil⟩
 ·intro h22;refine uO 2 ?_;obtain⟨A_p,rfl⟩:∃q,A=some q:=(hR.sat O).au (by omega);obtain⟨x,hx⟩:∃zz_,bs[0]?=some zz_:=⟨_,List.getElem?_eq_getElem (by omega)⟩;refine u1 0 (ix rfl rfl bd sL) ?_;refine u1 1 (an rfl Az (fP (hR.sat O) (bu hx))) ?_;refine aJ 0 0 (aD rfl rfl) ?_ ?_
  ·intro h28;refine uO 6 ?_;intro a I;refine o1 1 I (ar I rfl l5) ?_;clear I a;refine uW (vs:=[_,_]) (cs':=[_,_]) rfl rfl aO O ?_;clear O;intro w O;refine uO 6 ?_;intro a I;refine ej I rfl (aQ I rfl) (br (cs:=[_,_]) I rfl cS aO (by exact O.ao (xs:=[_,_]) rfl)) (aQ I rfl) (aQ I rfl) ?_;exact .inr ⟨(fun f hff=>D0 hk hx (by omega)),_,_,_,⟨none,0,none,0,⟨[],[]⟩⟩,_,_,_,rfl,O.nil⟩
  ·intro h28;have hg0:=CY hk hx (by omega);refine uO 13 ?_;refine uN G3 O ?_;clear O;intro b9 w O;refine uO 9 ?_;intro a I;refine wp_loop_rounds 4 ?_;refine aN ?_;refine rC 4 I ?_;clear I a;refine u1 11 (c5 (aq rfl rfl) (by omega)) ?_;refine uF rfl (cI _ (some A_p) c bs 1 (hR.sat O) (by omega) (by omega)) ?_;obtain⟨v0,n0,x0,hr0⟩:∃v n x,dr bs 1=(v,n,x):=⟨_,_,_,rfl⟩;obtain⟨hv0,hn0⟩:=mM hr0;rintro e w ⟨he,hT⟩;rw[hr0]at he;subst he;dsimp only;replace O:Sat _ _ _:=O.ag hT;clear hT;refine uO 1 ?_;refine u1 0 (ai rfl rfl) ?_;refine u1 0 (ai rfl rfl) ?_;refine u1 9 (ai rfl rfl) ?_;refine aJ 0 0 (aD rfl rfl) ?_ ?_
   ·intro h43;refine uO 13 ?_;intro a I;refine o1 1 I (ar I rfl l5) ?_;clear I a;refine uW (vs:=[_,_]) (cs':=[_,_]) rfl rfl aO (O.p 1) ?_;clear O;intro w O;refine uO 11 ?_;intro a I;refine ej I rfl (aQ I rfl) (br (cs:=[_,_]) I rfl cS aO (by exact O.ao (xs:=[_,_]) rfl)) (aQ I rfl) (aQ I rfl) ?_;exact .inr ⟨(fun f hff=>Ke hk hL hg0 (ln hr0 (by omega))),_,_,_,⟨none,0,none,0,⟨[],[]⟩⟩,_,_,_,rfl,O.nil⟩
   ·intro h43;refine uO 3 ?_;refine u1 1 (ak rfl bd) ?_;refine u1 0 (sb rfl rfl) ?_;refine aJ 0 0 (cG rfl rfl) ?_ ?_
    ·intro h50;refine uO 6 ?_;intro a I;refine o1 1 I (ar I rfl l5) ?_;clear I a;refine uW (vs:=[_,_]) (cs':=[_,_]) rfl rfl aO (O.p 1) ?_;clear O;intro w O;refine uO 11 ?_;intro a I;refine ej I rfl (aQ I rfl) (br (cs:=[_,_]) I rfl cS aO (by exact O.ao (xs:=[_,_]) rfl)) (aQ I rfl) (aQ I rfl) ?_;exact .inr ⟨(fun f hff=>Ke hk hL hg0 (jX hr0 (by omega) (by omega))),_,_,_,⟨none,0,none,0,⟨[],[]⟩⟩,_,_,_,rfl,O.nil⟩
    ·intro h50;refine uO 10 ?_;refine u1 8 (aw (ad rfl rfl) (show _=Value.int .i64 ((n0+v0:Nat):Int) from congrArg (Value.int .i64) (by omega))) ?_;obtain rfl:x0=0:=by omega
     have htx0:=nd hr0 (by omega);have hl0:=mQ (bs:=bs) (n:=n0) (v:=v0) (by omega);refine u1 0 (aw (iq rfl rfl rfl bd sL (by omega) (by omega) (by omega)) (jC (bs:=bs) (n:=v0) rfl (by omega))) ?_;refine u1 0 (iA rfl rfl iP gG) ?_;intro a I;refine fS (cs':=[_,_,_]) I rfl rfl rB gG rfl O rfl rfl ?_;clear O;intro w O;refine rO 5 I ?_;clear I a;refine u1 2 (aw (ad rfl rfl) (show _=Value.int .i64 1 from rfl)) ?_;intro a I;refine aN ?_;refine rC 4 I ?_;clear I a;refine u1 11 (c5 (aq rfl rfl) (by omega)) ?_;refine uF rfl (cI _ (some A_p) c bs (n0+v0) (hR.sat O) (by omega) (by omega)) ?_;obtain⟨v1,n1,x1,hr1⟩:∃v n x,dr bs (n0+v0)=(v,n,x):=⟨_,_,_,rfl⟩;obtain⟨hv1,hn1⟩:=mM hr1;rintro e w ⟨he,hT⟩;rw[hr1]at he;subst he;dsimp only;replace O:Sat _ _ _:=O.ag hT;clear hT
     refine uO 1 ?_;refine u1 0 (ai rfl rfl) ?_;refine u1 0 (ai rfl rfl) ?_;refine u1 9 (ai rfl rfl) ?_;refine aJ 0 0 (aD rfl rfl) ?_ ?_
     ·intro h43;refine uO 13 ?_;intro a I;refine o1 1 I (ar I rfl l5) ?_;clear I a;refine uW (vs:=[_,_]) (cs':=[_,_]) rfl rfl aO (O.p 1) ?_;clear O;intro w O;refine uO 11 ?_;intro a I;refine ej I rfl (aQ I rfl) (br (cs:=[_,_]) I rfl cS aO (by exact O.ao (xs:=[_,_]) rfl)) (aQ I rfl) (aQ I rfl) ?_;exact .inr ⟨(fun f hff=>JS hk hL hg0 htx0 (ln hr1 (by omega))),_,_,_,⟨none,0,none,0,⟨[],[]⟩⟩,_,_,_,rfl,O.nil⟩
     ·intro h43;refine uO 3 ?_;refine u1 1 (ak rfl bd) ?_;refine u1 0 (sb rfl rfl) ?_;refine aJ 0 0 (cG rfl rfl) ?_ ?_
      ·intro h50;refine uO 6 ?_;intro a I;refine o1 1 I (ar I rfl l5) ?_;clear I a;refine uW (vs:=[_,_]) (cs':=[_,_]) rfl rfl aO (O.p 1) ?_;clear O;intro w O;refine uO 11 ?_;intro a I;refine ej I rfl (aQ I rfl) (br (cs:=[_,_]) I rfl cS aO (by exact O.ao (xs:=[_,_]) rfl)) (aQ I rfl) (aQ I rfl) ?_;exact .inr ⟨(fun f hff=>JS hk hL hg0 htx0 (jX hr1 (by omega) (by omega))),_,_,_,⟨none,0,none,0,⟨[],[]⟩⟩,_,_,_,rfl,O.nil⟩
      ·intro h50;refine uO 10 ?_;refine u1 8 (aw (ad rfl rfl) (show _=Value.int .i64 ((n1+v1:Nat):Int) from congrArg (Value.int .i64) (by omega))) ?_;obtain rfl:x1=0:=by omega
       have htx1:=nd hr1 (by omega);have hl1:=mQ (bs:=bs) (n:=n1) (v:=v1) (by omega);refine u1 0 (aw (iq rfl rfl rfl bd sL (by omega) (by omega) (by omega)) (jC (bs:=bs) (n:=v1) rfl (by omega))) ?_;refine u1 0 (iA rfl rfl iP gG) ?_;intro a I;refine fS (cs':=[_,_,_]) I rfl rfl rB gG rfl O rfl rfl ?_;clear O;intro w O;refine rO 5 I ?_;clear I a;refine u1 2 (aw (ad rfl rfl) (show _=Value.int .i64 2 from rfl)) ?_;intro a I;refine aN ?_;refine rC 4 I ?_;clear I a;refine u1 11 (c5 (aq rfl rfl) (by omega)) ?_;refine uF rfl (cI _ (some A_p) c bs (n1+v1) (hR.sat O) (by omega) (by omega)) ?_;obtain⟨v2,n2,x2,hr2⟩:∃v n x,dr bs (n1+v1)=(v,n,x):=⟨_,_,_,rfl⟩;obtain⟨hv2,hn2⟩:=mM hr2;rintro e w ⟨he,hT⟩;rw[hr2]at he;subst he;dsimp only;replace O:Sat _ _ _:=O.ag hT;clear hT
       refine uO 1 ?_;refine u1 0 (ai rfl rfl) ?_;refine u1 0 (ai rfl rfl) ?_;refine u1 9 (ai rfl rfl) ?_;refine aJ 0 0 (aD rfl rfl) ?_ ?_
       ·intro h43;refine uO 13 ?_;intro a I;refine o1 1 I (ar I rfl l5) ?_;clear I a;refine uW (vs:=[_,_]) (cs':=[_,_]) rfl rfl aO (O.p 1) ?_;clear O;intro w O;refine uO 11 ?_;intro a I;refine ej I rfl (aQ I rfl) (br (cs:=[_,_]) I rfl cS aO (by exact O.ao (xs:=[_,_]) rfl)) (aQ I rfl) (aQ I rfl) ?_;exact .inr ⟨(fun f hff=>JC hk hL hg0 htx0 htx1 (ln hr2 (by omega))),_,_,_,⟨none,0,none,0,⟨[],[]⟩⟩,_,_,_,rfl,O.nil⟩
       ·intro h43;refine uO 3 ?_;refine u1 1 (ak rfl bd) ?_;refine u1 0 (sb rfl rfl) ?_;refine aJ 0 0 (cG rfl rfl) ?_ ?_
        ·intro h50;refine uO 6 ?_;intro a I;refine o1 1 I (ar I rfl l5) ?_;clear I a;refine uW (vs:=[_,_]) (cs':=[_,_]) rfl rfl aO (O.p 1) ?_;clear O;intro w O;refine uO 11 ?_;intro a I;refine ej I rfl (aQ I rfl) (br (cs:=[_,_]) I rfl cS aO (by exact O.ao (xs:=[_,_]) rfl)) (aQ I rfl) (aQ I rfl) ?_;exact .inr ⟨(fun f hff=>JC hk hL hg0 htx0 htx1 (jX hr2 (by omega) (by omega))),_,_,_,⟨none,0,none,0,⟨[],[]⟩⟩,_,_,_,rfl,O.nil⟩
        ·intro h50;refine uO 10 ?_;refine u1 8 (aw (ad rfl rfl) (show _=Value.int .i64 ((n2+v2:Nat):Int) from congrArg (Value.int .i64) (by omega))) ?_;obtain rfl:x2=0:=by omega
         have htx2:=nd hr2 (by omega);have hl2:=mQ (bs:=bs) (n:=n2) (v:=v2) (by omega);refine u1 0 (aw (iq rfl rfl rfl bd sL (by omega) (by omega) (by omega)) (jC (bs:=bs) (n:=v2) rfl (by omega))) ?_;refine u1 0 (iA rfl rfl iP gG) ?_;intro a I;refine fS (cs':=[_,_,_]) I rfl rfl rB gG rfl O rfl rfl ?_;clear O;intro w O;refine rO 5 I ?_;clear I a;refine u1 2 (aw (ad rfl rfl) (show _=Value.int .i64 3 from rfl)) ?_;intro a I;refine aN ?_;refine rC 4 I ?_;clear I a;refine u1 8 (dz (aq rfl rfl) (by omega)) ?_;intro a I;replace I:=I.kp [0,4,5,6,7,8,9] rfl;refine rC 2 I ?_;clear I a;refine u1 0 (iA rfl rfl iP gG) ?_;refine u1 0 (ld rfl) ?_;refine uF rfl (tf _ _ _ ((bs.drop n0).take v0) (by omega) (gg (hR.sat O) n0 v0 (by omega))) ?_
         rintro e w (⟨Ae,ce,xs,hq0,hgg0,HQ,rfl,hT⟩ | ⟨hno0,rfl,hT⟩)
         ·replace O:=O.aM hT;clear hT;refine uO 1 ?_;refine u1 0 (ai rfl rfl) ?_;refine u1 6 (ai rfl rfl) ?_;refine u1 0 (iA rfl rfl iP gG) ?_;refine u1 0 (ld rfl) ?_;refine uF rfl (nP _ _ _ ((bs.drop n1).take v1) (by omega) (gg (hR.sat O) n1 v1 (by omega))) ?_;rintro e w (⟨z,hq1,hgg1,hb1,rfl,hT⟩ | ⟨hno1,rfl,hT⟩)
          ·replace O:Sat _ _ (_::_::_):=O.ag hT;clear hT;refine uO 1 ?_;refine u1 0 (ai rfl rfl) ?_;refine u1 0 (ai rfl rfl) ?_;refine uN cY O ?_;clear O;intro b16 w O;refine uW (vs:=[_,_]) (cs':=[_,_]) rfl rfl aO O ?_;clear O;intro w O;refine uO 5 ?_;refine u1 0 (iA rfl rfl iP gG) ?_;refine u1 0 (ld rfl) ?_;refine uF rfl (ij _ _ _ ((bs.drop n2).take v2) (by omega) (gg (hR.sat O) n2 v2 (by omega))) ?_;rintro e w (⟨R,hq2,hgg2,hb2,rfl,hT⟩ | ⟨hno2,rfl,hT⟩)
           ·replace O:=O.aM hT;clear hT;refine uO 1 ?_;refine u1 0 (ai rfl rfl) ?_;refine u1 5 (ai rfl rfl) ?_;intro a I;refine bf [20] O (by kernel_rfl) ?_;replace O:=O.drew;refine rX [0] I ?_;clear I a;refine cZ 1 [2,3,4] rfl (by exact⟨[],O⟩) (fun w hT=>have O:=hT.sat;(lS (cs:=[_,_]) rfl)) ?_;refine bF 5 [] rfl (fun w=>(ak rfl bd)) ?_;intro a I;refine K.zh 6 I pk rfl rfl rfl rfl (by kernel_rfl) (by kernel_rfl) (by kernel_rfl) (fun w=>(aU (I.ev rfl) (I.ev rfl))) ?_ ?_
            ·clear I a;intro h86;refine uX [7,8] ?_;refine bF 9 [10,11,12] rfl (fun w=>(c5 (aU rfl rfl) (by omega))) ?_;refine bF 13 [14,15,16] rfl (fun w=>(c5 (aU rfl rfl) (by omega))) ?_;refine bF 17 [18,19] rfl (fun w=>(c5 (aU rfl rfl) (by omega))) ?_;intro a I;refine aE 20 (by kernel_rfl) ?_;refine cH (vs:=[_,_]) (cs':=[_,_]) I rfl rfl rfl aO (by simp[Value.oneCell']) (O.p 6) rfl rfl ?_;clear O;intro w O;refine⟨.inl rfl,?_⟩;refine rX [21,22] I ?_;clear I a;intro a I;refine ah (by kernel_rfl) ?_ _;refine rE 1 I ?_;clear I a;intro a I;replace I:=I.kp [4,5,6,7] rfl;refine rC 1 I ?_;clear I a;intro a I;refine ej I rfl (aQ I rfl) (br (cs:=[_,_]) I rfl cS aO (by exact O.ao (xs:=[_,_]) rfl)) (aQ I rfl) (aQ I rfl) ?_;have hn9:bs.drop (n2+v2)=[]:=qF (by omega);rw[hn9]at htx2
             have hst:=GW (d:=⟨xs,z.d,R.d⟩) hg0 rfl htx0 htx1 htx2 hq0 hq1 hq2 (by show z.d.ab.length≤_;omega);have hz16:=((iK (by omega)).1 hq1).2.len;have hbr:(dO R.d).length≤16777216:=by have:=(mB.1 hq2).1;rw[List.append_nil]at this;rw[←this];omega
             refine .inl ⟨⟨⟨Ae,ce,xs⟩,z,R⟩,hst,zD hgg0 hgg1 hgg2,⟨by show xs.length≤_;omega,by show z.d.vec.length≤_;omega,by show z.d.ab.length≤_;omega,fun r hr=>by have:=hb2.2 r hr;omega,?_⟩,rfl,?_⟩
             ·have:=qL R.d;rw[show R.d.map bK.bx=R.rs.map fun r=>r.p.d from kS R.rs]at this;show dm (R.rs.map fun r=>r.p.d)≤_;omega
             ·exact y7 ((((O.p 1).p 4).p 4).p 5)
            ·clear I a;intro h86;refine uX [7,8,9,10,11,12,13,14,15,16,17,18,19] ?_;intro a I;refine aE 20 (by kernel_rfl) ?_;refine cH (vs:=[_,_]) (cs':=[_,_]) I rfl rfl rfl aO (by simp[Value.oneCell']) (O.p 6) rfl rfl ?_;clear O;intro w O;refine⟨.inl rfl,?_⟩;refine rX [21,22] I ?_;clear I a;intro a I;refine ah (by kernel_rfl) ?_ _;refine rE 1 I ?_;clear I a;intro a I;replace I:=I.kp [4,5,6,7] rfl;refine rC 1 I ?_;clear I a;intro a I;refine ej I rfl (aQ I rfl) (br (cs:=[_,_]) I rfl cS aO (by exact O.ao (xs:=[_,_]) rfl)) (aQ I rfl) (aQ I rfl) ?_;exact .inr ⟨(fun f hff=>vd hk hL hg0 htx0 htx1 htx2 fun d hd e3 e0 e1 e2=>(absurd (drop_nil (by omega) e3) (by omega))),_,_,_,z,_,_,_,rfl,O.nil⟩
           ·replace O:Sat _ _ _:=O.ag hT;clear hT;refine uO 1 ?_;refine u1 0 (ai rfl rfl) ?_;refine u1 5 (ai rfl rfl) ?_;intro a I;refine bf [20] O (by kernel_rfl) ?_;replace O:=O.drew;refine rX [0] I ?_;clear I a;refine cZ 1 [2,3,4] rfl (by exact⟨[],O⟩) (fun w hT=>have O:=hT.sat;(lS (cs:=[_,_]) rfl)) ?_;refine bF 5 [] rfl (fun w=>(ak rfl bd)) ?_;intro a I;refine K.zh 6 I pk rfl rfl rfl rfl (by kernel_rfl) (by kernel_rfl) (by kernel_rfl) (fun w=>(aU (I.ev rfl) (I.ev rfl))) ?_ ?_
            ·clear I a;intro h86;refine uX [7,8] ?_;refine bF 9 [10,11,12] rfl (fun w=>(c5 (aU rfl rfl) (by omega))) ?_;refine bF 13 [14,15,16] rfl (fun w=>(c5 (aU rfl rfl) (by omega))) ?_;refine bF 17 [18,19] rfl (fun w=>(dz (aU rfl rfl) (by omega))) ?_;intro a I;refine aE 20 (by kernel_rfl) ?_;refine cH (vs:=[_,_]) (cs':=[_,_]) I rfl rfl rfl aO (by simp[Value.oneCell']) (O.p 5) rfl rfl ?_;clear O;intro w O;refine⟨.inl rfl,?_⟩;refine rX [21,22] I ?_;clear I a;intro a I;refine ah (by kernel_rfl) ?_ _;refine rE 1 I ?_;clear I a;intro a I;replace I:=I.kp [4,5,6,7] rfl;refine rC 1 I ?_;clear I a;intro a I;refine ej I rfl (aQ I rfl) (br (cs:=[_,_]) I rfl cS aO (by exact O.ao (xs:=[_,_]) rfl)) (aQ I rfl) (aQ I rfl) ?_
             exact .inr ⟨(fun f hff=>vd hk hL hg0 htx0 htx1 htx2 fun d hd e3 e0 e1 e2=>(by have hh:=hno2 d.mw (by rw[e2];exact mD (aA (hff d hd)).2.2 (by rw[←e2];omega));rw[(aA (hff d hd)).2.2]at hh;cases hh)),_,_,_,z,_,_,_,rfl,O.nil⟩
            ·clear I a;intro h86;refine uX [7,8,9,10,11,12,13,14,15,16,17,18,19] ?_;intro a I;refine aE 20 (by kernel_rfl) ?_;refine cH (vs:=[_,_]) (cs':=[_,_]) I rfl rfl rfl aO (by simp[Value.oneCell']) (O.p 5) rfl rfl ?_;clear O;intro w O;refine⟨.inl rfl,?_⟩;refine rX [21,22] I ?_;clear I a;intro a I;refine ah (by kernel_rfl) ?_ _;refine rE 1 I ?_;clear I a;intro a I;replace I:=I.kp [4,5,6,7] rfl;refine rC 1 I ?_;clear I a;intro a I;refine ej I rfl (aQ I rfl) (br (cs:=[_,_]) I rfl cS aO (by exact O.ao (xs:=[_,_]) rfl)) (aQ I rfl) (aQ I rfl) ?_;exact .inr ⟨(fun f hff=>vd hk hL hg0 htx0 htx1 htx2 fun d hd e3 e0 e1 e2=>(by have hh:=hno2 d.mw (by rw[e2];exact mD (aA (hff d hd)).2.2 (by rw[←e2];omega));rw[(aA (hff d hd)).2.2]at hh;cases hh)),_,_,_,z,_,_,_,rfl,O.nil⟩
          ·replace O:Sat _ _ _:=O.ag hT;clear hT;refine uO 1 ?_;refine u1 0 (ai rfl rfl) ?_;refine u1 0 (ai rfl rfl) ?_;refine uN cY O ?_;clear O;intro b16 w O;refine uW (vs:=[_,_]) (cs':=[_,_]) rfl rfl aO O ?_;clear O;intro w O;refine uO 5 ?_;refine u1 0 (iA rfl rfl iP gG) ?_;refine u1 0 (ld rfl) ?_;refine uF rfl (ij _ _ _ ((bs.drop n2).take v2) (by omega) (gg (hR.sat O) n2 v2 (by omega))) ?_;rintro e w (⟨R,hq2,hgg2,hb2,rfl,hT⟩ | ⟨hno2,rfl,hT⟩)
           ·replace O:=O.aM hT;clear hT;refine uO 1 ?_;refine u1 0 (ai rfl rfl) ?_;refine u1 5 (ai rfl rfl) ?_;intro a I;refine bf [20] O (by kernel_rfl) ?_;replace O:=O.drew;refine rX [0] I ?_;clear I a;refine cZ 1 [2,3,4] rfl (by exact⟨[],O⟩) (fun w hT=>have O:=hT.sat;(lS (cs:=[_,_]) rfl)) ?_;refine bF 5 [] rfl (fun w=>(ak rfl bd)) ?_;intro a I;refine K.zh 6 I pk rfl rfl rfl rfl (by kernel_rfl) (by kernel_rfl) (by kernel_rfl) (fun w=>(aU (I.ev rfl) (I.ev rfl))) ?_ ?_
            ·clear I a;intro h86;refine uX [7,8] ?_;refine bF 9 [10,11,12] rfl (fun w=>(c5 (aU rfl rfl) (by omega))) ?_;refine bF 13 [14,15,16,17,18,19] rfl (fun w=>(dz (aU rfl rfl) (by omega))) ?_;intro a I;refine aE 20 (by kernel_rfl) ?_;refine cH (vs:=[_,_]) (cs':=[_,_]) I rfl rfl rfl aO (by simp[Value.oneCell']) (O.p 4) rfl rfl ?_;clear O;intro w O;refine⟨.inl rfl,?_⟩;refine rX [21,22] I ?_;clear I a;intro a I;refine ah (by kernel_rfl) ?_ _;refine rE 1 I ?_;clear I a;intro a I;replace I:=I.kp [4,5,6,7] rfl;refine rC 1 I ?_;clear I a;intro a I;refine ej I rfl (aQ I rfl) (br (cs:=[_,_]) I rfl cS aO (by exact O.ao (xs:=[_,_]) rfl)) (aQ I rfl) (aQ I rfl) ?_
             exact .inr ⟨(fun f hff=>vd hk hL hg0 htx0 htx1 htx2 fun d hd e3 e0 e1 e2=>(by have hh:=hno1 d.bx (by rw[e1];exact iE (aA (hff d hd)).2.1 (iH (n:=9223372036854775807) (by rw[←e1];omega)));rw[(aA (hff d hd)).2.1]at hh;cases hh)),_,_,_,⟨none,0,none,0,⟨[],[]⟩⟩,_,_,_,rfl,O.nil⟩
            ·clear I a;intro h86;refine uX [7,8,9,10,11,12,13,14,15,16,17,18,19] ?_;intro a I;refine aE 20 (by kernel_rfl) ?_;refine cH (vs:=[_,_]) (cs':=[_,_]) I rfl rfl rfl aO (by simp[Value.oneCell']) (O.p 4) rfl rfl ?_;clear O;intro w O;refine⟨.inl rfl,?_⟩;refine rX [21,22] I ?_;clear I a;intro a I;refine ah (by kernel_rfl) ?_ _;refine rE 1 I ?_;clear I a;intro a I;replace I:=I.kp [4,5,6,7] rfl;refine rC 1 I ?_;clear I a;intro a I;refine ej I rfl (aQ I rfl) (br (cs:=[_,_]) I rfl cS aO (by exact O.ao (xs:=[_,_]) rfl)) (aQ I rfl) (aQ I rfl) ?_
             exact .inr ⟨(fun f hff=>vd hk hL hg0 htx0 htx1 htx2 fun d hd e3 e0 e1 e2=>(by have hh:=hno1 d.bx (by rw[e1];exact iE (aA (hff d hd)).2.1 (iH (n:=9223372036854775807) (by rw[←e1];omega)));rw[(aA (hff d hd)).2.1]at hh;cases hh)),_,_,_,⟨none,0,none,0,⟨[],[]⟩⟩,_,_,_,rfl,O.nil⟩
           ·replace O:Sat _ _ _:=O.ag hT;clear hT;refine uO 1 ?_;refine u1 0 (ai rfl rfl) ?_;refine u1 5 (ai rfl rfl) ?_;intro a I;refine bf [20] O (by kernel_rfl) ?_;replace O:=O.drew;refine rX [0] I ?_;clear I a;refine cZ 1 [2,3,4] rfl (by exact⟨[],O⟩) (fun w hT=>have O:=hT.sat;(lS (cs:=[_,_]) rfl)) ?_;refine bF 5 [] rfl (fun w=>(ak rfl bd)) ?_;intro a I;refine K.zh 6 I pk rfl rfl rfl rfl (by kernel_rfl) (by kernel_rfl) (by kernel_rfl) (fun w=>(aU (I.ev rfl) (I.ev rfl))) ?_ ?_
            ·clear I a;intro h86;refine uX [7,8] ?_;refine bF 9 [10,11,12] rfl (fun w=>(c5 (aU rfl rfl) (by omega))) ?_;refine bF 13 [14,15,16,17,18,19] rfl (fun w=>(dz (aU rfl rfl) (by omega))) ?_;intro a I;refine aE 20 (by kernel_rfl) ?_;refine cH (vs:=[_,_]) (cs':=[_,_]) I rfl rfl rfl aO (by simp[Value.oneCell']) (O.p 3) rfl rfl ?_;clear O;intro w O;refine⟨.inl rfl,?_⟩;refine rX [21,22] I ?_;clear I a;intro a I;refine ah (by kernel_rfl) ?_ _;refine rE 1 I ?_;clear I a;intro a I;replace I:=I.kp [4,5,6,7] rfl;refine rC 1 I ?_;clear I a;intro a I;refine ej I rfl (aQ I rfl) (br (cs:=[_,_]) I rfl cS aO (by exact O.ao (xs:=[_,_]) rfl)) (aQ I rfl) (aQ I rfl) ?_
             exact .inr ⟨(fun f hff=>vd hk hL hg0 htx0 htx1 htx2 fun d hd e3 e0 e1 e2=>(by have hh:=hno1 d.bx (by rw[e1];exact iE (aA (hff d hd)).2.1 (iH (n:=9223372036854775807) (by rw[←e1];omega)));rw[(aA (hff d hd)).2.1]at hh;cases hh)),_,_,_,⟨none,0,none,0,⟨[],[]⟩⟩,_,_,_,rfl,O.nil⟩
            ·clear I a;intro h86;refine uX [7,8,9,10,11,12,13,14,15,16,17,18,19] ?_;intro a I;refine aE 20 (by kernel_rfl) ?_;refine cH (vs:=[_,_]) (cs':=[_,_]) I rfl rfl rfl aO (by simp[Value.oneCell']) (O.p 3) rfl rfl ?_;clear O;intro w O;refine⟨.inl rfl,?_⟩;refine rX [21,22] I ?_;clear I a;intro a I;refine ah (by kernel_rfl) ?_ _;refine rE 1 I ?_;clear I a;intro a I;replace I:=I.kp [4,5,6,7] rfl;refine rC 1 I ?_;clear I a;intro a I;refine ej I rfl (aQ I rfl) (br (cs:=[_,_]) I rfl cS aO (by exact O.ao (xs:=[_,_]) rfl)) (aQ I rfl) (aQ I rfl) ?_
             exact .inr ⟨(fun f hff=>vd hk hL hg0 htx0 htx1 htx2 fun d hd e3 e0 e1 e2=>(by have hh:=hno1 d.bx (by rw[e1];exact iE (aA (hff d hd)).2.1 (iH (n:=9223372036854775807) (by rw[←e1];omega)));rw[(aA (hff d hd)).2.1]at hh;cases hh)),_,_,_,⟨none,0,none,0,⟨[],[]⟩⟩,_,_,_,rfl,O.nil⟩
         ·replace O:Sat _ _ _:=O.ag hT;clear hT;refine uO 1 ?_;refine u1 0 (ai rfl rfl) ?_;refine u1 6 (ai rfl rfl) ?_;refine u1 0 (iA rfl rfl iP gG) ?_;refine u1 0 (ld rfl) ?_;refine uF rfl (nP _ _ _ ((bs.drop n1).take v1) (by omega) (gg (hR.sat O) n1 v1 (by omega))) ?_;rintro e w (⟨z,hq1,hgg1,hb1,rfl,hT⟩ | ⟨hno1,rfl,hT⟩)
          ·replace O:Sat _ _ (_::_::_):=O.ag hT;clear hT;refine uO 1 ?_;refine u1 0 (ai rfl rfl) ?_;refine u1 0 (ai rfl rfl) ?_;refine uN cY O ?_;clear O;intro b16 w O;refine uW (vs:=[_,_]) (cs':=[_,_]) rfl rfl aO O ?_;clear O;intro w O;refine uO 5 ?_;refine u1 0 (iA rfl rfl iP gG) ?_;refine u1 0 (ld rfl) ?_;refine uF rfl (ij _ _ _ ((bs.drop n2).take v2) (by omega) (gg (hR.sat O) n2 v2 (by omega))) ?_;rintro e w (⟨R,hq2,hgg2,hb2,rfl,hT⟩ | ⟨hno2,rfl,hT⟩)
           ·replace O:=O.aM hT;clear hT;refine uO 1 ?_;refine u1 0 (ai rfl rfl) ?_;refine u1 5 (ai rfl rfl) ?_;intro a I;refine bf [20] O (by kernel_rfl) ?_;replace O:=O.drew;refine rX [0] I ?_;clear I a;refine cZ 1 [2,3,4] rfl (by exact⟨[],O⟩) (fun w hT=>have O:=hT.sat;(lS (cs:=[_,_]) rfl)) ?_;refine bF 5 [] rfl (fun w=>(ak rfl bd)) ?_;intro a I;refine K.zh 6 I pk rfl rfl rfl rfl (by kernel_rfl) (by kernel_rfl) (by kernel_rfl) (fun w=>(aU (I.ev rfl) (I.ev rfl))) ?_ ?_
            ·clear I a;intro h86;refine uX [7,8] ?_;refine bF 9 [10,11,12,13,14,15,16,17,18,19] rfl (fun w=>(dz (aU rfl rfl) (by omega))) ?_;intro a I;refine aE 20 (by kernel_rfl) ?_;refine cH (vs:=[_,_]) (cs':=[_,_]) I rfl rfl rfl aO (by simp[Value.oneCell']) (O.p 5) rfl rfl ?_;clear O;intro w O;refine⟨.inl rfl,?_⟩;refine rX [21,22] I ?_;clear I a;intro a I;refine ah (by kernel_rfl) ?_ _;refine rE 1 I ?_;clear I a;intro a I;replace I:=I.kp [4,5,6,7] rfl;refine rC 1 I ?_;clear I a;intro a I;refine ej I rfl (aQ I rfl) (br (cs:=[_,_]) I rfl cS aO (by exact O.ao (xs:=[_,_]) rfl)) (aQ I rfl) (aQ I rfl) ?_
             skip
             exact .inr ⟨(fun f hff=>vd hk hL hg0 htx0 htx1 htx2 fun d hd e3 e0 e1 e2=>(by have hh:=hno0 d.jn (by rw[e0];exact ek (aA (hff d hd)).1 (ed (n:=9223372036854775807) (by rw[←e0];omega)));rw[(aA (hff d hd)).1]at hh;cases hh)),_,_,_,z,_,_,_,rfl,O.nil⟩
            ·clear I a;intro h86;refine uX [7,8,9,10,11,12,13,14,15,16,17,18,19] ?_;intro a I;refine aE 20 (by kernel_rfl) ?_;refine cH (vs:=[_,_]) (cs':=[_,_]) I rfl rfl rfl aO (by simp[Value.oneCell']) (O.p 5) rfl rfl ?_;clear O;intro w O;refine⟨.inl rfl,?_⟩;refine rX [21,22] I ?_;clear I a;intro a I;refine ah (by kernel_rfl) ?_ _;refine rE 1 I ?_;clear I a;intro a I;replace I:=I.kp [4,5,6,7] rfl;refine rC 1 I ?_;clear I a;intro a I;refine ej I rfl (aQ I rfl) (br (cs:=[_,_]) I rfl cS aO (by exact O.ao (xs:=[_,_]) rfl)) (aQ I rfl) (aQ I rfl) ?_
             skip
             exact .inr ⟨(fun f hff=>vd hk hL hg0 htx0 htx1 htx2 fun d hd e3 e0 e1 e2=>(by have hh:=hno0 d.jn (by rw[e0];exact ek (aA (hff d hd)).1 (ed (n:=9223372036854775807) (by rw[←e0];omega)));rw[(aA (hff d hd)).1]at hh;cases hh)),_,_,_,z,_,_,_,rfl,O.nil⟩
           ·replace O:Sat _ _ _:=O.ag hT;clear hT;refine uO 1 ?_;refine u1 0 (ai rfl rfl) ?_;refine u1 5 (ai rfl rfl) ?_;intro a I;refine bf [20] O (by kernel_rfl) ?_;replace O:=O.drew;refine rX [0] I ?_;clear I a;refine cZ 1 [2,3,4] rfl (by exact⟨[],O⟩) (fun w hT=>have O:=hT.sat;(lS (cs:=[_,_]) rfl)) ?_;refine bF 5 [] rfl (fun w=>(ak rfl bd)) ?_;intro a I;refine K.zh 6 I pk rfl rfl rfl rfl (by kernel_rfl) (by kernel_rfl) (by kernel_rfl) (fun w=>(aU (I.ev rfl) (I.ev rfl))) ?_ ?_
            ·clear I a;intro h86;refine uX [7,8] ?_;refine bF 9 [10,11,12,13,14,15,16,17,18,19] rfl (fun w=>(dz (aU rfl rfl) (by omega))) ?_;intro a I;refine aE 20 (by kernel_rfl) ?_;refine cH (vs:=[_,_]) (cs':=[_,_]) I rfl rfl rfl aO (by simp[Value.oneCell']) (O.p 4) rfl rfl ?_;clear O;intro w O;refine⟨.inl rfl,?_⟩;refine rX [21,22] I ?_;clear I a;intro a I;refine ah (by kernel_rfl) ?_ _;refine rE 1 I ?_;clear I a;intro a I;replace I:=I.kp [4,5,6,7] rfl;refine rC 1 I ?_;clear I a;intro a I;refine ej I rfl (aQ I rfl) (br (cs:=[_,_]) I rfl cS aO (by exact O.ao (xs:=[_,_]) rfl)) (aQ I rfl) (aQ I rfl) ?_
             skip
             exact .inr ⟨(fun f hff=>vd hk hL hg0 htx0 htx1 htx2 fun d hd e3 e0 e1 e2=>(by have hh:=hno0 d.jn (by rw[e0];exact ek (aA (hff d hd)).1 (ed (n:=9223372036854775807) (by rw[←e0];omega)));rw[(aA (hff d hd)).1]at hh;cases hh)),_,_,_,z,_,_,_,rfl,O.nil⟩
            ·clear I a;intro h86;refine uX [7,8,9,10,11,12,13,14,15,16,17,18,19] ?_;intro a I;refine aE 20 (by kernel_rfl) ?_;refine cH (vs:=[_,_]) (cs':=[_,_]) I rfl rfl rfl aO (by simp[Value.oneCell']) (O.p 4) rfl rfl ?_;clear O;intro w O;refine⟨.inl rfl,?_⟩;refine rX [21,22] I ?_;clear I a;intro a I;refine ah (by kernel_rfl) ?_ _;refine rE 1 I ?_;clear I a;intro a I;replace I:=I.kp [4,5,6,7] rfl;refine rC 1 I ?_;clear I a;intro a I;refine ej I rfl (aQ I rfl) (br (cs:=[_,_]) I rfl cS aO (by exact O.ao (xs:=[_,_]) rfl)) (aQ I rfl) (aQ I rfl) ?_
             skip
             exact .inr ⟨(fun f hff=>vd hk hL hg0 htx0 htx1 htx2 fun d hd e3 e0 e1 e2=>(by have hh:=hno0 d.jn (by rw[e0];exact ek (aA (hff d hd)).1 (ed (n:=9223372036854775807) (by rw[←e0];omega)));rw[(aA (hff d hd)).1]at hh;cases hh)),_,_,_,z,_,_,_,rfl,O.nil⟩
          ·replace O:Sat _ _ _:=O.ag hT;clear hT;refine uO 1 ?_;refine u1 0 (ai rfl rfl) ?_;refine u1 0 (ai rfl rfl) ?_;refine uN cY O ?_;clear O;intro b16 w O;refine uW (vs:=[_,_]) (cs':=[_,_]) rfl rfl aO O ?_;clear O;intro w O;refine uO 5 ?_;refine u1 0 (iA rfl rfl iP gG) ?_;refine u1 0 (ld rfl) ?_;refine uF rfl (ij _ _ _ ((bs.drop n2).take v2) (by omega) (gg (hR.sat O) n2 v2 (by omega))) ?_;rintro e w (⟨R,hq2,hgg2,hb2,rfl,hT⟩ | ⟨hno2,rfl,hT⟩)
           ·replace O:=O.aM hT;clear hT;refine uO 1 ?_;refine u1 0 (ai rfl rfl) ?_;refine u1 5 (ai rfl rfl) ?_;intro a I;refine bf [20] O (by kernel_rfl) ?_;replace O:=O.drew;refine rX [0] I ?_;clear I a;refine cZ 1 [2,3,4] rfl (by exact⟨[],O⟩) (fun w hT=>have O:=hT.sat;(lS (cs:=[_,_]) rfl)) ?_;refine bF 5 [] rfl (fun w=>(ak rfl bd)) ?_;intro a I;refine K.zh 6 I pk rfl rfl rfl rfl (by kernel_rfl) (by kernel_rfl) (by kernel_rfl) (fun w=>(aU (I.ev rfl) (I.ev rfl))) ?_ ?_
            ·clear I a;intro h86;refine uX [7,8] ?_;refine bF 9 [10,11,12,13,14,15,16,17,18,19] rfl (fun w=>(dz (aU rfl rfl) (by omega))) ?_;intro a I;refine aE 20 (by kernel_rfl) ?_;refine cH (vs:=[_,_]) (cs':=[_,_]) I rfl rfl rfl aO (by simp[Value.oneCell']) (O.p 3) rfl rfl ?_;clear O;intro w O;refine⟨.inl rfl,?_⟩;refine rX [21,22] I ?_;clear I a;intro a I;refine ah (by kernel_rfl) ?_ _;refine rE 1 I ?_;clear I a;intro a I;replace I:=I.kp [4,5,6,7] rfl;refine rC 1 I ?_;clear I a;intro a I;refine ej I rfl (aQ I rfl) (br (cs:=[_,_]) I rfl cS aO (by exact O.ao (xs:=[_,_]) rfl)) (aQ I rfl) (aQ I rfl) ?_
             skip
             exact .inr ⟨(fun f hff=>vd hk hL hg0 htx0 htx1 htx2 fun d hd e3 e0 e1 e2=>(by have hh:=hno0 d.jn (by rw[e0];exact ek (aA (hff d hd)).1 (ed (n:=9223372036854775807) (by rw[←e0];omega)));rw[(aA (hff d hd)).1]at hh;cases hh)),_,_,_,⟨none,0,none,0,⟨[],[]⟩⟩,_,_,_,rfl,O.nil⟩
            ·clear I a;intro h86;refine uX [7,8,9,10,11,12,13,14,15,16,17,18,19] ?_;intro a I;refine aE 20 (by kernel_rfl) ?_;refine cH (vs:=[_,_]) (cs':=[_,_]) I rfl rfl rfl aO (by simp[Value.oneCell']) (O.p 3) rfl rfl ?_;clear O;intro w O;refine⟨.inl rfl,?_⟩;refine rX [21,22] I ?_;clear I a;intro a I;refine ah (by kernel_rfl) ?_ _;refine rE 1 I ?_;clear I a;intro a I;replace I:=I.kp [4,5,6,7] rfl;refine rC 1 I ?_;clear I a;intro a I;refine ej I rfl (aQ I rfl) (br (cs:=[_,_]) I rfl cS aO (by exact O.ao (xs:=[_,_]) rfl)) (aQ I rfl) (aQ I rfl) ?_
             skip
             exact .inr ⟨(fun f hff=>vd hk hL hg0 htx0 htx1 htx2 fun d hd e3 e0 e1 e2=>(by have hh:=hno0 d.jn (by rw[e0];exact ek (aA (hff d hd)).1 (ed (n:=9223372036854775807) (by rw[←e0];omega)));rw[(aA (hff d hd)).1]at hh;cases hh)),_,_,_,⟨none,0,none,0,⟨[],[]⟩⟩,_,_,_,rfl,O.nil⟩
           ·replace O:Sat _ _ _:=O.ag hT;clear hT;refine uO 1 ?_;refine u1 0 (ai rfl rfl) ?_;refine u1 5 (ai rfl rfl) ?_;intro a I;refine bf [20] O (by kernel_rfl) ?_;replace O:=O.drew;refine rX [0] I ?_;clear I a;refine cZ 1 [2,3,4] rfl (by exact⟨[],O⟩) (fun w hT=>have O:=hT.sat;(lS (cs:=[_,_]) rfl)) ?_;refine bF 5 [] rfl (fun w=>(ak rfl bd)) ?_;intro a I;refine K.zh 6 I pk rfl rfl rfl rfl (by kernel_rfl) (by kernel_rfl) (by kernel_rfl) (fun w=>(aU (I.ev rfl) (I.ev rfl))) ?_ ?_
            ·clear I a;intro h86;refine uX [7,8] ?_;refine bF 9 [10,11,12,13,14,15,16,17,18,19] rfl (fun w=>(dz (aU rfl rfl) (by omega))) ?_;intro a I;refine aE 20 (by kernel_rfl) ?_;refine cH (vs:=[_,_]) (cs':=[_,_]) I rfl rfl rfl aO (by simp[Value.oneCell']) (O.p 2) rfl rfl ?_;clear O;intro w O;refine⟨.inl rfl,?_⟩;refine rX [21,22] I ?_;clear I a;intro a I;refine ah (by kernel_rfl) ?_ _;refine rE 1 I ?_;clear I a;intro a I;replace I:=I.kp [4,5,6,7] rfl;refine rC 1 I ?_;clear I a;intro a I;refine ej I rfl (aQ I rfl) (br (cs:=[_,_]) I rfl cS aO (by exact O.ao (xs:=[_,_]) rfl)) (aQ I rfl) (aQ I rfl) ?_
             skip
             exact .inr ⟨(fun f hff=>vd hk hL hg0 htx0 htx1 htx2 fun d hd e3 e0 e1 e2=>(by have hh:=hno0 d.jn (by rw[e0];exact ek (aA (hff d hd)).1 (ed (n:=9223372036854775807) (by rw[←e0];omega)));rw[(aA (hff d hd)).1]at hh;cases hh)),_,_,_,⟨none,0,none,0,⟨[],[]⟩⟩,_,_,_,rfl,O.nil⟩
            ·clear I a;intro h86;refine uX [7,8,9,10,11,12,13,14,15,16,17,18,19] ?_;intro a I;refine aE 20 (by kernel_rfl) ?_;refine cH (vs:=[_,_]) (cs':=[_,_]) I rfl rfl rfl aO (by simp[Value.oneCell']) (O.p 2) rfl rfl ?_;clear O;intro w O;refine⟨.inl rfl,?_⟩;refine rX [21,22] I ?_;clear I a;intro a I;refine ah (by kernel_rfl) ?_ _;refine rE 1 I ?_;clear I a;intro a I;replace I:=I.kp [4,5,6,7] rfl;refine rC 1 I ?_;clear I a;intro a I;refine ej I rfl (aQ I rfl) (br (cs:=[_,_]) I rfl cS aO (by exact O.ao (xs:=[_,_]) rfl)) (aQ I rfl) (aQ I rfl) ?_
             skip
             exact .inr ⟨(fun f hff=>vd hk hL hg0 htx0 htx1 htx2 fun d hd e3 e0 e1 e2=>(by have hh:=hno0 d.jn (by rw[e0];exact ek (aA (hff d hd)).1 (ed (n:=9223372036854775807) (by rw[←e0];omega)));rw[(aA (hff d hd)).1]at hh;cases hh)),_,_,_,⟨none,0,none,0,⟨[],[]⟩⟩,_,_,_,rfl,O.nil⟩
theorem qH (W:World)(A:Option Addr)(c:Nat)(bs:List UInt8)(hb:bs.length≤16777216)(hR:Rd W 1 (.slice A bs.length c) bs.length (bs.map aj)):Calls Tryz.prog 95 #[.slice A (bs).length c] W fun e w'=>(∃s:SL,bs=cC 1 s.d∧aH s.d=true∧kQ s∧e=.returned (.tuple #[.agg #[.slice s.e.a s.e.es.length s.e.c,.slice s.p.va s.p.d.vec.length s.p.vc,.slice s.p.ca s.p.d.ab.length s.p.cc,.slice s.r.a s.r.rs.length s.r.c],.int .i64 0])∧Sat W w' [fJ 216 s.e.a s.e.c s.e.es,cq 3 s.p.va s.p.vc s.p.d.vec,bp 219 s.p.ca s.p.cc s.p.d.ab,s.r.ch 206 3 219])∨(my 1 aH bs∧e=.returned (.tuple #[.agg #[.slice none 0 0,.slice none 0 0,.slice none 0 0,.slice none 0 0],.int .i64 8])∧Sat W w' []):=by
 refine bS Tryz.func95 [0] ?_;have O:=Sat.start W;refine uC 2 ?_;refine uN qg O ?_;clear O;intro b2 w O;refine uO 6 ?_;refine uF rfl (rM _ 1 A c bs (by decide) hb (hR.sat O)) ?_;rintro e w (⟨s,hst,hfb,hsm,rfl,hT⟩ | ⟨hno,A1,n1,c1,z,A3,n3,c3,rfl,hT⟩)
 ·replace O:Sat _ _ (_::_::_::_::_):=O.ag hT;clear hT;refine uO 1 ?_;refine u1 0 (ai rfl rfl) ?_;refine u1 0 (ai rfl rfl) ?_;refine u1 0 (ai rfl rfl) ?_;refine j4 0 0 (ai rfl rfl) ?_ ?_
  ·intro h15;intro a I;simp only at h15;refine goN I rfl cY O ?_;clear I a O;intro b5 w O;refine uO 1 ?_;refine uW (vs:=[_,_]) (cs':=[_,_]) rfl rfl aO O ?_;clear O;intro w O;refine uO 7 ?_;refine u1 1 (lS (cs:=[_,_]) rfl) ?_;intro a I;refine o1 0 I (ar I rfl jE) ?_;clear I a;refine uN qg O ?_;clear O;intro b8 w O;refine uW (vs:=[_,_,_,_]) (cs':=[_,_,_,_]) rfl rfl gK O ?_;clear O;intro w O;refine uO 6 ?_;refine u1 1 (aB rfl) ?_;refine u1 0 (lS (cs:=[_,_,_,_]) rfl) ?_;refine iV rfl (pQ _ s (SL.sD ((((O.p 5).p 5).p 5).p 5)) hsm) ?_;rintro e w ⟨rfl,hT⟩;replace O:Sat _ _ _:=O.ag hT;clear hT;cases h24:aH s.d
   ·rw[if_neg (by decide)];refine aJ 0 0 (aD rfl rfl) ?_ ?_
    ·intro h25;refine uO 6 ?_;intro a I;refine o1 0 I (ar I rfl CP) ?_;clear I a;refine uW (vs:=[_,_,_,_]) (cs':=[_,_,_,_]) rfl rfl gK (O.p 6) ?_;clear O;intro w O;refine uO 3 ?_;intro a I;replace I:=I.kp [2,3,8] rfl;refine rC 2 I ?_;clear I a;intro a I;refine bO I rfl (br (cs:=[_,_,_,_]) I rfl vw gK (by exact O.ao (xs:=[_,_,_,_]) rfl)) (aQ I rfl) ?_;refine .inr ⟨fun d hd e=>?_,rfl,O.nil⟩;have:=ox (by decide) hfb hd (by rw[←hst];omega) (hst.symm.trans e);rw[this,hd]at h24;cases h24
    ·intro h25;intro a I;contradiction
   ·rw[if_pos rfl];refine aJ 0 0 (aD rfl rfl) ?_ ?_
    ·intro h25;intro a I;contradiction
    ·intro h25;refine uO 6 ?_;intro a I;replace I:=I.kp [2,3,8] rfl;refine rC 2 I ?_;clear I a;refine u1 0 (lS (cs:=[_,_,_,_]) rfl) ?_;refine uW (vs:=[_,_,_,_]) (cs':=[_,_,_,_]) rfl rfl gK (O.p 6) ?_;clear O;intro w O;refine uO 4 ?_;intro a I;refine bO I rfl (br (cs:=[_,_,_,_]) I rfl vw gK (by exact O.ao (xs:=[_,_,_,_]) rfl)) (aQ I rfl) ?_;exact .inl ⟨s,hst,h24,hsm,rfl,y7 ((((O.p 6).p 6).p 6).p 6)⟩
  ·intro h15;intro a I;contradiction
 ·replace O:Sat _ _ _:=O.ag hT;clear hT;refine uO 1 ?_;refine u1 0 (ai rfl rfl) ?_;refine u1 0 (ai rfl rfl) ?_;refine u1 0 (ai rfl rfl) ?_;refine j4 0 0 (ai rfl rfl) ?_ ?_
  ·intro h15;intro a I;contradiction
  ·intro h15;intro a I;simp only at h15;refine goN I rfl cY O ?_;clear I a O;intro b5 w O;refine uO 1 ?_;refine uW (vs:=[_,_]) (cs':=[_,_]) rfl rfl aO O ?_;clear O;intro w O;refine uO 7 ?_;refine u1 1 (lS (cs:=[_,_]) rfl) ?_;intro a I;refine o1 0 I (ar I rfl jE) ?_;clear I a;refine uN qg O ?_;clear O;intro b8 w O;refine uW (vs:=[_,_,_,_]) (cs':=[_,_,_,_]) rfl rfl gK O ?_;clear O;intro w O;refine uO 6 ?_;refine u1 10 (aB rfl) ?_;intro a I;refine o1 0 I (ar I rfl CP) ?_;clear I a;refine uW (vs:=[_,_,_,_]) (cs':=[_,_,_,_]) rfl rfl gK (O.p 2) ?_;clear O;intro w O;refine uO 3 ?_;intro a I;replace I:=I.kp [2,3,8] rfl;refine rC 2 I ?_;clear I a;intro a I;refine bO I rfl (br (cs:=[_,_,_,_]) I rfl vw gK (by exact O.ao (xs:=[_,_,_,_]) rfl)) (aQ I rfl) ?_
   exact .inr ⟨hno aH (fun d hd=>hd),rfl,O.nil⟩
theorem r7 (W:World)(A:Option Addr)(c:Nat)(bs:List UInt8)(hb:bs.length≤16777216)(hR:Rd W 1 (.slice A bs.length c) bs.length (bs.map aj)):Calls Tryz.prog 96 #[.slice A (bs).length c] W fun e w'=>(∃s:SL,bs=cC 2 s.d∧bD s.d=true∧kQ s∧e=.returned (.tuple #[.agg #[.slice s.e.a s.e.es.length s.e.c,.slice s.p.va s.p.d.vec.length s.p.vc,.slice s.p.ca s.p.d.ab.length s.p.cc,.slice s.r.a s.r.rs.length s.r.c],.int .i64 0])∧Sat W w' [fJ 216 s.e.a s.e.c s.e.es,cq 3 s.p.va s.p.vc s.p.d.vec,bp 219 s.p.ca s.p.cc s.p.d.ab,s.r.ch 206 3 219])∨(my 2 bD bs∧e=.returned (.tuple #[.agg #[.slice none 0 0,.slice none 0 0,.slice none 0 0,.slice none 0 0],.int .i64 8])∧Sat W w' []):=by
 refine bS Tryz.func96 [0] ?_;have O:=Sat.start W;refine uC 2 ?_;refine uN sc O ?_;clear O;intro b2 w O;refine uO 6 ?_;refine uF rfl (rM _ 2 A c bs (by decide) hb (hR.sat O)) ?_;rintro e w (⟨s,hst,hfb,hsm,rfl,hT⟩ | ⟨hno,A1,n1,c1,z,A3,n3,c3,rfl,hT⟩)
 ·replace O:Sat _ _ (_::_::_::_::_):=O.ag hT;clear hT;refine uO 1 ?_;refine u1 0 (ai rfl rfl) ?_;refine u1 0 (ai rfl rfl) ?_;refine u1 0 (ai rfl rfl) ?_;refine j4 0 0 (ai rfl rfl) ?_ ?_
  ·intro h15;intro a I;simp only at h15;refine goN I rfl cY O ?_;clear I a O;intro b5 w O;refine uO 1 ?_;refine uW (vs:=[_,_]) (cs':=[_,_]) rfl rfl aO O ?_;clear O;intro w O;refine uO 7 ?_;refine u1 1 (lS (cs:=[_,_]) rfl) ?_;intro a I;refine o1 0 I (ar I rfl nf) ?_;clear I a;refine uN sc O ?_;clear O;intro b8 w O;refine uW (vs:=[_,_,_,_]) (cs':=[_,_,_,_]) rfl rfl ir O ?_;clear O;intro w O;refine uO 6 ?_;refine u1 1 (aB rfl) ?_;refine u1 0 (lS (cs:=[_,_,_,_]) rfl) ?_;refine iV rfl (pU _ s (SL.sD ((((O.p 5).p 5).p 5).p 5)) hsm) ?_;rintro e w ⟨rfl,hT⟩;replace O:Sat _ _ _:=O.ag hT;clear hT;cases h24:bD s.d
   ·rw[if_neg (by decide)];refine aJ 0 0 (aD rfl rfl) ?_ ?_
    ·intro h25;refine uO 6 ?_;intro a I;refine o1 0 I (ar I rfl BU) ?_;clear I a;refine uW (vs:=[_,_,_,_]) (cs':=[_,_,_,_]) rfl rfl ir (O.p 6) ?_;clear O;intro w O;refine uO 3 ?_;intro a I;replace I:=I.kp [2,3,8] rfl;refine rC 2 I ?_;clear I a;intro a I;refine bO I rfl (br (cs:=[_,_,_,_]) I rfl tP ir (by exact O.ao (xs:=[_,_,_,_]) rfl)) (aQ I rfl) ?_;refine .inr ⟨fun d hd e=>?_,rfl,O.nil⟩;have:=ox (by decide) hfb (cT hd) (by rw[←hst];omega) (hst.symm.trans e);rw[this,hd]at h24;cases h24
    ·intro h25;intro a I;contradiction
   ·rw[if_pos rfl];refine aJ 0 0 (aD rfl rfl) ?_ ?_
    ·intro h25;intro a I;contradiction
    ·intro h25;refine uO 6 ?_;intro a I;replace I:=I.kp [2,3,8] rfl;refine rC 2 I ?_;clear I a;refine u1 0 (lS (cs:=[_,_,_,_]) rfl) ?_;refine uW (vs:=[_,_,_,_]) (cs':=[_,_,_,_]) rfl rfl ir (O.p 6) ?_;clear O;intro w O;refine uO 4 ?_;intro a I;refine bO I rfl (br (cs:=[_,_,_,_]) I rfl tP ir (by exact O.ao (xs:=[_,_,_,_]) rfl)) (aQ I rfl) ?_;exact .inl ⟨s,hst,h24,hsm,rfl,y7 ((((O.p 6).p 6).p 6).p 6)⟩
  ·intro h15;intro a I;contradiction
 ·replace O:Sat _ _ _:=O.ag hT;clear hT;refine uO 1 ?_;refine u1 0 (ai rfl rfl) ?_;refine u1 0 (ai rfl rfl) ?_;refine u1 0 (ai rfl rfl) ?_;refine j4 0 0 (ai rfl rfl) ?_ ?_
  ·intro h15;intro a I;contradiction
  ·intro h15;intro a I;simp only at h15;refine goN I rfl cY O ?_;clear I a O;intro b5 w O;refine uO 1 ?_;refine uW (vs:=[_,_]) (cs':=[_,_]) rfl rfl aO O ?_;clear O;intro w O;refine uO 7 ?_;refine u1 1 (lS (cs:=[_,_]) rfl) ?_;intro a I;refine o1 0 I (ar I rfl nf) ?_;clear I a;refine uN sc O ?_;clear O;intro b8 w O;refine uW (vs:=[_,_,_,_]) (cs':=[_,_,_,_]) rfl rfl ir O ?_;clear O;intro w O;refine uO 6 ?_;refine u1 10 (aB rfl) ?_;intro a I;refine o1 0 I (ar I rfl BU) ?_;clear I a;refine uW (vs:=[_,_,_,_]) (cs':=[_,_,_,_]) rfl rfl ir (O.p 2) ?_;clear O;intro w O;refine uO 3 ?_;intro a I;replace I:=I.kp [2,3,8] rfl;refine rC 2 I ?_;clear I a;intro a I;refine bO I rfl (br (cs:=[_,_,_,_]) I rfl tP ir (by exact O.ao (xs:=[_,_,_,_]) rfl)) (aQ I rfl) ?_
   exact .inr ⟨hno bD (fun d hd=>cT hd),rfl,O.nil⟩
structure nX where
 aZ:Int
 st:iR
structure dT where
 self:Int
 next:Int
 hs:List nX
def oq (k:Nat)(h:nX):List UInt8:=aV h.aZ.toNat++fr (cC k h.st)
def bq (k:Nat)(hs:List nX):List UInt8:=hs.flatMap (oq k)
def dh (s n c:Nat):List UInt8:=aV 3++(aV s++(aV n++aV c))
def dp (k:Nat)(d:dT):List UInt8:=dh d.self.toNat d.next.toNat d.hs.length++bq k d.hs
def dB (k:Nat)(d:dT):List UInt8:=fj (dp k d)
def cO (p:Option nX)(h:nX):Bool:=(decide (0≤h.aZ) && decide (h.aZ<64)) && match p with
 | none=>true
 | some q=>decide (q.aZ<h.aZ)
def G4 (d:dT):Bool:=(decide (0≤d.self) && decide (d.self<16)) && (decide (0≤d.next) && decide (d.next≤4611686018427387904))
def kr (d:dT):Bool:=G4 d && kJ cO none d.hs
def ju (f:iR→Bool)(d:dT):Bool:=kr d && d.hs.all fun h=>f h.st
def lk (k:Nat)(f:iR→Bool)(bs:List UInt8):Prop:=∀d:dT,ju f d=true→bs≠dB k d
theorem k8 {a b:Nat}{r r':List UInt8}(ha:a≤9223372036854775807)(hb:b≤9223372036854775807)(h:aV a++r=aV b++r'):a=b∧r=r':=by
 have h1:=(aW (cQ:=9223372036854775807) (l:=aV a++r) (v:=a) (r:=r)).2 ⟨rfl,by omega,ha⟩;have h2:=(aW (cQ:=9223372036854775807) (l:=aV b++r') (v:=b) (r:=r')).2 ⟨rfl,by omega,hb⟩;rw[h,h2]at h1
 injection h1 with h1
 obtain⟨e1,e2⟩:=Prod.mk.inj h1;exact⟨e1.symm,e2.symm⟩
theorem Hz {a b r r':List UInt8}(ha:a.length≤9223372036854775807)(hb:b.length≤9223372036854775807)(h:fr a++r=fr b++r'):a=b∧r=r':=by
 unfold fr at h;rw[List.append_assoc,List.append_assoc]at h;obtain⟨h1,h2⟩:=k8 ha hb h;exact List.append_inj h2 h1
theorem iL (k:Nat)(h:nX)(hs:List nX):bq k (h::hs)=oq k h++bq k hs:=rfl
theorem pK (k:Nat)(a b:List nX):bq k (a++b)=bq k a++bq k b:=by unfold bq;simp
theorem IG (b:List UInt8):b.length<(fr b).length:=by
 unfold fr;have:=cm b.length;rw[List.length_append];omega
theorem vR (k:Nat)(h:nX):(cC k h.st).length+2≤(oq k h).length:=by
 unfold oq;have:=cm h.aZ.toNat;have:=IG (cC k h.st);rw[List.length_append];omega
theorem o4 (k:Nat):∀hs:List nX,hs.length * 2≤(bq k hs).length
 | []=>Nat.le_refl 0
 | h :: hs => by
   have:=o4 k hs;have:=vR k h;rw[iL,List.length_append,List.length_cons];omega
theorem oV {k:Nat}{f:iR→Bool}(hk:k≤2)(hf:∀d,f d=true→aH d=true):∀(xs ys:List nX) (rest:List UInt8),(∀x∈xs,0≤x.aZ∧x.aZ<9223372036854775808∧f x.st=true)→(∀y∈ys,0≤y.aZ∧y.aZ<9223372036854775808∧f y.st=true)→xs.length≤ys.length→(bq k ys).length≤9223372036854775807→
 bq k ys=bq k xs++rest→∃zs,ys=xs++zs∧rest=bq k zs
 | [],ys,rest,_,_,_,_,h=>⟨ys,rfl,by rw[h];rfl⟩
 | x::xs,[],rest,_,_,h,_,_=>by simp at h
 | x :: xs, y :: ys, rest, hx, hy, hl, hL, h => by
   obtain⟨hx0,hx1,hx2⟩:=hx x (by simp);obtain⟨hy0,hy1,hy2⟩:=hy y (by simp);rw[iL,iL]at h;have hL':=hL;rw[iL,List.length_append]at hL;have hgy:=vR k y
   have hlx:(oq k x).length≤9223372036854775807:=by
    have:=congrArg List.length h;simp only[List.length_append]at this;omega
   have hgx:=vR k x;unfold oq at h;simp only[List.append_assoc]at h;obtain⟨h1,h2⟩:=k8 (by omega) (by omega) h;obtain⟨h3,h4⟩:=Hz (by omega) (by omega) h2;have h5:=ox hk (hf _ hy2) (hf _ hx2) (by omega) h3;obtain⟨zs,h6,h7⟩:=oV hk hf xs ys rest (fun z hz=>hx z (by simp[hz])) (fun z hz=>hy z (by simp[hz])) (by simpa using hl) (by omega) h4;refine⟨zs,?_,h7⟩;have:y=x:=by cases x;cases y;simp only at h1 h5 hx0 hy0;subst h5;congr 1;omega
   rw[h6,this];rfl
theorem cV {d:dT}(h:kr d=true):0≤d.self∧d.self<16∧0≤d.next∧d.next≤4611686018427387904∧kJ cO none d.hs=true:=by
 unfold kr G4 at h;simp only[Bool.and_eq_true,decide_eq_true_eq]at h;exact⟨h.1.1.1,h.1.1.2,h.1.2.1,h.1.2.2,h.2⟩
theorem fI {f:iR→Bool}{d:dT}(h:ju f d=true):kr d=true:=by
 unfold ju at h;rw[Bool.and_eq_true]at h;exact h.1
theorem tF {f:iR→Bool}{d:dT}(h:ju f d=true):∀x∈d.hs,f x.st=true:=by
 unfold ju at h;rw[Bool.and_eq_true,List.all_eq_true]at h;exact h.2
theorem rh {hs:List nX}(h:kJ cO none hs=true):∀x∈hs,0≤x.aZ∧x.aZ<64:=fun x hx=>by
 obtain⟨i,hi⟩:=List.mem_iff_getElem?.1 hx;have:=lV h i x hi;unfold cO at this;simp only[Bool.and_eq_true,decide_eq_true_eq]at this;exact this.1
theorem vC {f:iR→Bool}{d:dT}(h:ju f d=true):∀x∈d.hs,0≤x.aZ∧x.aZ<9223372036854775808∧f x.st=true:=fun x hx=>by
 obtain⟨h1,h2⟩:=rh (cV (fI h)).2.2.2.2 x hx;exact⟨h1,by omega,tF h x hx⟩
theorem oL (b:List UInt8):(fj b).length=b.length+8:=by unfold fj cU;simp
theorem iD (b:List UInt8):(fj b).take ((fj b).length-8)=b:=by
 rw[oL,Nat.add_sub_cancel];unfold fj;rw[List.take_left]
theorem FD {a b:List UInt8}(h:fj a=fj b):a=b:=by
 rw[←iD a,h,iD]
def qW (bs:List UInt8):Prop:=8≤bs.length∧bs=fj (bs.take (bs.length-8))
theorem DV (b:List UInt8):qW (fj b):=⟨by rw[oL];omega,by rw[iD]⟩
theorem oS {k:Nat}{f:iR→Bool}{bs:List UInt8}(h:¬qW bs):lk k f bs:=fun d _ e=>h (by rw[e];exact DV _)
theorem il {k:Nat}{f:iR→Bool}{bs body:List UInt8}(hb:body=bs.take (bs.length-8))(h:∀d,ju f d=true→body≠dp k d):lk k f bs:=fun d hd e=>h d hd (by rw[hb,e];exact iD _)
theorem yV {s n c s' n' c':Nat}{r r':List UInt8}(h1:s≤9223372036854775807)(h2:n≤9223372036854775807)(h3:c≤9223372036854775807)(h1':s'≤9223372036854775807)(h2':n'≤9223372036854775807)(h3':c'≤9223372036854775807)(h:dh s n c++r=dh s' n' c'++r'):s=s'∧n=n'∧c=c'∧r=r':=by
 unfold dh at h;simp only[List.append_assoc]at h;obtain⟨_,h⟩:=k8 (by omega) (by omega) h;obtain⟨e1,h⟩:=k8 h1 h1' h;obtain⟨e2,h⟩:=k8 h2 h2' h;obtain⟨e3,h⟩:=k8 h3 h3' h;exact⟨e1,e2,e3,h⟩
theorem EN {k:Nat}{f:iR→Bool}(hk:k≤2)(hf:∀d,f d=true→aH d=true){d d':dT}{r:List UInt8}(hd:ju f d=true)(hd':ju f d'=true)(hL:(dp k d).length≤9223372036854775807)(h:dp k d=dp k d'++r):d=d'∧r=[]:=by
 obtain⟨a1,a2,a3,a4,_⟩:=cV (fI hd);obtain⟨b1,b2,b3,b4,_⟩:=cV (fI hd');have hl:d.hs.length * 2≤(dp k d).length:=by unfold dp;rw[List.length_append];have:=o4 k d.hs;omega
 have hl':d'.hs.length * 2≤(dp k d).length:=by rw[h];unfold dp;simp only[List.length_append];have:=o4 k d'.hs;omega
 have hl2:(bq k d.hs).length≤(dp k d).length:=by unfold dp;rw[List.length_append];omega
 unfold dp at h;rw[List.append_assoc]at h;obtain⟨e1,e2,e3,h⟩:=yV (by omega) (by omega) (by omega) (by omega) (by omega) (by omega) h;obtain⟨zs,h6,h7⟩:=oV hk hf d'.hs d.hs r (vC hd') (vC hd) (by omega) (by omega) h
 have hz:zs=[]:=by
  have:=congrArg List.length h6;rw[List.length_append]at this;exact List.eq_nil_of_length_eq_zero (by omega)
 subst hz;refine⟨?_,h7⟩;rw[List.append_nil]at h6;cases d;cases d';simp only at h6 e1 e2 a1 a3 b1 b3;subst h6
 congr 1<;>omega
theorem CT {k:Nat}{f:iR→Bool}(hk:k≤2)(hf:∀d,f d=true→aH d=true){d d':dT}(hd:ju f d=true)(hd':ju f d'=true)(hL:(dB k d).length≤9223372036854775807)(h:dB k d=dB k d'):d=d':=by
 unfold dB at h hL;rw[oL]at hL;exact (EN hk hf (r:=[]) hd hd' (by omega) (by rw[List.append_nil];exact FD h)).1
theorem kL (n:Nat):(cU n).length=4:=rfl
end Go.Proofs.YtkjabaihpkbfhaaGreat.Wk
namespace Go.Proofs.YtkjabaihpkbfhaaGreat.K
open Go Go.RowKit
section
variable {P:Program} {w:World} {ρ:Operand→Value} {d:Option Tmp} {ty t e:TypeId} {ps:String} {af:Array Edge} {g:Option (Nat×Bool)} {x y z u:Operand}
variable {A:Option Addr} {n c sz:Nat} {i j m:Int} {k k' k'':IntKind}
theorem Bx (hx:ρ x=.slice A n c)(hw:ρ z=.int k' j)(hu:ρ u=.int k'' m)(ht:P.underlying t=some (.slice e))(hz:(P.info? e).map (·.size)=some sz)(h1:0≤j)(h2:j≤m)(h3:m≤c) :
 (execOp ρ ⟨d,.slice t x none (some z) (some u),ty,ps,af,g⟩).run P w=.ok (.value (.slice (jW A m.toNat sz 0) j.toNat m.toNat)) w:=by
 obtain⟨q,hq,hqz⟩:=Option.map_eq_some_iff.1 hz;have hm0:0≤m:=by omega
 have h4:j.toNat≤m.toNat:=by omega
 have h6:j≤(m.toNat:Int):=by omega
 have h7:j≤max m 0:=by omega
 have h8:0≤max j 0:=by omega
 simp[h7,h8,jW,execOp,Instr.sliceAt,Instr.slice,Instr.sliceBounds,Instr.sliceBound,run_underlying ht,hx,hw,hu,asIntOf,hm0,h1,h2,h3,h6,sizeOf,typeInfo,hq,hqz,go_sem]
end
theorem Rd.first {w:World}{sz n c k:Nat}{A:Option Addr}{cs:List Value}(h:Rd w sz (.slice A n c) n cs)(hk:k≤n):Rd w sz (.slice A k k) k (cs.take (k * sz)):=by
 obtain⟨A',c',hv,hc,hl,h⟩:=h
 injection hv with h1 h2 h3
 subst h1 h3;refine⟨A,k,rfl,Nat.le_refl _,?_,?_⟩
 ·
  rw[List.length_take,hl];have:=Nat.mul_le_mul_right sz hk;omega
 ·
  rcases h with h | ⟨p,hp,hh⟩
  ·
   exact .inl (by omega)
  ·
   refine .inr ⟨p,hp,fun j u e=>hh j u ?_⟩;rw[List.getElem?_take]at e
   split at e
   ·
    exact e
   ·
    cases e
theorem kq (m:Nat):Value.int .u8 (IntKind.u8.wrap (m:Int))=aj (UInt8.ofNat m):=by
 unfold aj;simp[IntKind.wrap,IntKind.bits,IntKind.signed,UInt8.toNat_ofNat']
theorem ig (n k:Nat)(hk:k≤64):((n:Nat):Int).fdiv (2 ^ (min ((k:Int)).toNat IntKind.i64.bits))=((n / 2 ^ k:Nat):Int):=by
 have:min ((k:Int)).toNat IntKind.i64.bits=k:=by simp[IntKind.bits];omega
 rw[this,Int.fdiv_eq_ediv_of_nonneg _ (by exact Int.le_of_lt (Int.pow_pos (by decide)))];rw[Int.natCast_ediv,Int.natCast_pow];rfl
end Go.Proofs.YtkjabaihpkbfhaaGreat.K
namespace Go.Proofs.YtkjabaihpkbfhaaGreat.Wk
open Go Go.RowKit Go.Proofs.YtkjabaihpkbfhaaGreat Go.Proofs.YtkjabaihpkbfhaaGreat.K Go.Proofs.YtkjabaihpkbfhaaGreat.T
theorem pN (W w:World)(L:List As)(A:Option Addr)(c:Nat)(bs:List UInt8)(O:Sat W w (row 5 1 (.slice A (bs).length c) (bs).length ((bs).map aj)::L))(hl:bs.length≤1000000000000):Calls Tryz.prog 93 #[.slice A (bs).length c] w fun e w'=>∃A' c',e=.returned (.slice A' (fj bs).length c')∧Sat W w' (row 5 1 (.slice A' (fj bs).length c') (fj bs).length ((fj bs).map aj)::L):=by
 refine bS Tryz.func93 [0] ?_;have hsl:=ng bs;refine uC 8 ?_;refine uF rfl (ui _ A c bs O.rd (by omega)) ?_;rintro e w ⟨rfl,hT⟩;replace O:Sat _ _ _:=O.ag hT;clear hT;refine uO 1 ?_;refine u1 0 (ai rfl rfl) ?_;refine u1 9 (ai rfl rfl) ?_;intro a I;refine nZ I rfl rfl ax iU rfl rfl rfl (by simp[Value.oneCell']) O ?_;clear I a O;intro A14 w O;refine u1 4 (ak rfl ax) ?_;intro a I;refine wp_loop_rounds 3 ?_;refine aN ?_;refine rC 2 I ?_;clear I a;refine u1 10 (c5 (aq rfl rfl) (by omega)) ?_;obtain⟨A14_p,rfl⟩:∃q,A14=some q:=O.rd.au (by omega)
 refine u1 0 (ix rfl rfl ax eP) ?_;refine u1 6 (an rfl dA (fP O.rd (show ([Value.int .i64 (((bn bs).1:Nat):Int),Value.int .i64 (((bn bs).2:Nat):Int)]:List Value)[0]?=some (Value.int .i64 (((bn bs).1:Nat):Int)) from rfl))) ?_;refine u1 0 (aw (j6 rfl rfl (by omega)) (show _=Value.int .i64 (((bn bs).1 / 16777216:Nat):Int) from congrArg (Value.int .i64) (ig ((bn bs).1) 24 (by decide)))) ?_;refine u1 1 (aw (fg rfl pA oa) (show _=aj (UInt8.ofNat ((bn bs).1 / 16777216)) from kq _)) ?_;refine u1 0 (aw (j6 rfl rfl (by omega)) (show _=Value.int .i64 (((bn bs).1 / 65536:Nat):Int) from congrArg (Value.int .i64) (ig ((bn bs).1) 16 (by decide)))) ?_;refine u1 1 (aw (fg rfl pA oa) (show _=aj (UInt8.ofNat ((bn bs).1 / 65536)) from kq _)) ?_;refine u1 0 (aw (j6 rfl rfl (by omega)) (show _=Value.int .i64 (((bn bs).1 / 256:Nat):Int) from congrArg (Value.int .i64) (ig ((bn bs).1) 8 (by decide)))) ?_;refine u1 1 (aw (fg rfl pA oa) (show _=aj (UInt8.ofNat ((bn bs).1 / 256)) from kq _)) ?_;refine u1 0 (aw (fg rfl pA oa) (show _=aj (UInt8.ofNat ((bn bs).1)) from kq _)) ?_
 intro a I;refine nZ I rfl rfl bd mX rfl rfl rfl (by simp[Value.oneCell',aj]) O ?_;clear I a O;intro A32 w O;intro a I;refine dq I rfl rfl rfl bd mX rfl (O.p 2) (O.rd.src bd (by simp[Value.oneCell',aj])) (by omega) (by omega) ?_;clear I a O;intro A33 c33 w hc33 O;have e1:bs.map aj++[aj (UInt8.ofNat ((bn bs).1 / 16777216)),aj (UInt8.ofNat ((bn bs).1 / 65536)),aj (UInt8.ofNat ((bn bs).1 / 256)),aj (UInt8.ofNat ((bn bs).1))]=(bs++cU (bn bs).1).map aj:=by simp[cU]
 have e2:bs.length+4=(bs++cU (bn bs).1).length:=by simp[cU]
 intro a I;rw[e1,e2]at O;rw[e2]at I;clear e1 e2;refine rO 5 I ?_;clear I a;refine u1 2 (aw (ad rfl rfl) (show _=Value.int .i64 1 from rfl)) ?_;intro a I;refine aN ?_;refine rC 2 I ?_;clear I a
 refine u1 10 (c5 (aq rfl rfl) (by omega)) ?_;refine u1 0 (ix rfl rfl ax eP) ?_;refine u1 6 (an rfl dA (fP (O.p 2).rd (show ([Value.int .i64 (((bn bs).1:Nat):Int),Value.int .i64 (((bn bs).2:Nat):Int)]:List Value)[1]?=some (Value.int .i64 (((bn bs).2:Nat):Int)) from rfl))) ?_;refine u1 0 (aw (j6 rfl rfl (by omega)) (show _=Value.int .i64 (((bn bs).2 / 16777216:Nat):Int) from congrArg (Value.int .i64) (ig ((bn bs).2) 24 (by decide)))) ?_;refine u1 1 (aw (fg rfl pA oa) (show _=aj (UInt8.ofNat ((bn bs).2 / 16777216)) from kq _)) ?_;refine u1 0 (aw (j6 rfl rfl (by omega)) (show _=Value.int .i64 (((bn bs).2 / 65536:Nat):Int) from congrArg (Value.int .i64) (ig ((bn bs).2) 16 (by decide)))) ?_;refine u1 1 (aw (fg rfl pA oa) (show _=aj (UInt8.ofNat ((bn bs).2 / 65536)) from kq _)) ?_;refine u1 0 (aw (j6 rfl rfl (by omega)) (show _=Value.int .i64 (((bn bs).2 / 256:Nat):Int) from congrArg (Value.int .i64) (ig ((bn bs).2) 8 (by decide)))) ?_;refine u1 1 (aw (fg rfl pA oa) (show _=aj (UInt8.ofNat ((bn bs).2 / 256)) from kq _)) ?_;refine u1 0 (aw (fg rfl pA oa) (show _=aj (UInt8.ofNat ((bn bs).2)) from kq _)) ?_
 intro a I;refine nZ I rfl rfl bd mX rfl rfl rfl (by simp[Value.oneCell',aj]) O ?_;clear I a O;intro A32 w O;intro a I;refine dq I rfl rfl rfl bd mX rfl (O.p 1) (O.rd.src bd (by simp[Value.oneCell',aj])) (by simp only[List.length_append,kL];omega) (by simp only[List.length_append,kL];omega) ?_;clear I a O;intro A33 c33 w hc33 O;have e1:(bs++cU (bn bs).1).map aj++[aj (UInt8.ofNat ((bn bs).2 / 16777216)),aj (UInt8.ofNat ((bn bs).2 / 65536)),aj (UInt8.ofNat ((bn bs).2 / 256)),aj (UInt8.ofNat ((bn bs).2))]=((bs++cU (bn bs).1)++cU (bn bs).2).map aj:=by simp[cU]
 have e2:(bs++cU (bn bs).1).length+4=((bs++cU (bn bs).1)++cU (bn bs).2).length:=by simp[cU]
 intro a I;rw[e1,e2]at O;rw[e2]at I;clear e1 e2;refine rO 5 I ?_;clear I a;refine u1 2 (aw (ad rfl rfl) (show _=Value.int .i64 2 from rfl)) ?_;intro a I;refine aN ?_;refine rC 2 I ?_;clear I a;refine u1 9 (dz (aq rfl rfl) (by omega)) ?_;intro a I;replace I:=I.kp [0,2] rfl;refine rC 7 I ?_;clear I a;refine aY ?_;have ho:(bs++cU (bn bs).1)++cU (bn bs).2=fj bs:=by unfold fj;rw[List.append_assoc]
 rw[ho]at O ⊢;exact⟨_,_,rfl,(((O.p 1).drop.p 1).drop.p 1).drop⟩
theorem wE (W:World)(p:Addr)(bs:List UInt8)(hR:Rd W 1 (.slice (some p) bs.length bs.length) bs.length (bs.map aj))(hl:bs.length≤1000000000000):Calls Tryz.prog 93 #[.slice (some p) bs.length bs.length] W fun e w'=>∃A' c',e=.returned (.slice A' (fj bs).length c')∧Sat W w' [row 5 1 (.slice A' (fj bs).length c') (fj bs).length ((fj bs).map aj)]:=by
 refine bS Tryz.func93 [0] ?_;have O:=Sat.start W;have hsl:=ng bs;refine uC 8 ?_;refine uF rfl (ui _ (some p) bs.length bs (hR.sat O) (by omega)) ?_;rintro e w ⟨rfl,hT⟩;replace O:Sat _ _ _:=O.ag hT;clear hT;refine uO 1 ?_;refine u1 0 (ai rfl rfl) ?_;refine u1 9 (ai rfl rfl) ?_;intro a I;refine nZ I rfl rfl ax iU rfl rfl rfl (by simp[Value.oneCell']) O ?_;clear I a O;intro A14 w O;refine u1 4 (ak rfl ax) ?_;intro a I;refine wp_loop_rounds 3 ?_;refine aN ?_;refine rC 2 I ?_;clear I a;refine u1 10 (c5 (aq rfl rfl) (by omega)) ?_;obtain⟨A14_p,rfl⟩:∃q,A14=some q:=O.rd.au (by omega)
 refine u1 0 (ix rfl rfl ax eP) ?_;refine u1 6 (an rfl dA (fP O.rd (show ([Value.int .i64 (((bn bs).1:Nat):Int),Value.int .i64 (((bn bs).2:Nat):Int)]:List Value)[0]?=some (Value.int .i64 (((bn bs).1:Nat):Int)) from rfl))) ?_;refine u1 0 (aw (j6 rfl rfl (by omega)) (show _=Value.int .i64 (((bn bs).1 / 16777216:Nat):Int) from congrArg (Value.int .i64) (ig ((bn bs).1) 24 (by decide)))) ?_;refine u1 1 (aw (fg rfl pA oa) (show _=aj (UInt8.ofNat ((bn bs).1 / 16777216)) from kq _)) ?_;refine u1 0 (aw (j6 rfl rfl (by omega)) (show _=Value.int .i64 (((bn bs).1 / 65536:Nat):Int) from congrArg (Value.int .i64) (ig ((bn bs).1) 16 (by decide)))) ?_;refine u1 1 (aw (fg rfl pA oa) (show _=aj (UInt8.ofNat ((bn bs).1 / 65536)) from kq _)) ?_;refine u1 0 (aw (j6 rfl rfl (by omega)) (show _=Value.int .i64 (((bn bs).1 / 256:Nat):Int) from congrArg (Value.int .i64) (ig ((bn bs).1) 8 (by decide)))) ?_;refine u1 1 (aw (fg rfl pA oa) (show _=aj (UInt8.ofNat ((bn bs).1 / 256)) from kq _)) ?_;refine u1 0 (aw (fg rfl pA oa) (show _=aj (UInt8.ofNat ((bn bs).1)) from kq _)) ?_
 intro a I;refine nZ I rfl rfl bd mX rfl rfl rfl (by simp[Value.oneCell',aj]) O ?_;clear I a O;intro A32 w O;intro a I;refine JQ I rfl rfl rfl bd mX rfl O (hR.sat O) (O.rd.src bd (by simp[Value.oneCell',aj])) (by omega) (by omega) (by omega) ?_;clear I a O;intro A33 c33 w hc33 O;have e1:bs.map aj++[aj (UInt8.ofNat ((bn bs).1 / 16777216)),aj (UInt8.ofNat ((bn bs).1 / 65536)),aj (UInt8.ofNat ((bn bs).1 / 256)),aj (UInt8.ofNat ((bn bs).1))]=(bs++cU (bn bs).1).map aj:=by simp[cU]
 have e2:bs.length+4=(bs++cU (bn bs).1).length:=by simp[cU]
 intro a I;rw[e1,e2]at O;rw[e2]at I;clear e1 e2;refine rO 5 I ?_;clear I a;refine u1 2 (aw (ad rfl rfl) (show _=Value.int .i64 1 from rfl)) ?_;intro a I;refine aN ?_;refine rC 2 I ?_;clear I a
 refine u1 10 (c5 (aq rfl rfl) (by omega)) ?_;refine u1 0 (ix rfl rfl ax eP) ?_;refine u1 6 (an rfl dA (fP (O.p 2).rd (show ([Value.int .i64 (((bn bs).1:Nat):Int),Value.int .i64 (((bn bs).2:Nat):Int)]:List Value)[1]?=some (Value.int .i64 (((bn bs).2:Nat):Int)) from rfl))) ?_;refine u1 0 (aw (j6 rfl rfl (by omega)) (show _=Value.int .i64 (((bn bs).2 / 16777216:Nat):Int) from congrArg (Value.int .i64) (ig ((bn bs).2) 24 (by decide)))) ?_;refine u1 1 (aw (fg rfl pA oa) (show _=aj (UInt8.ofNat ((bn bs).2 / 16777216)) from kq _)) ?_;refine u1 0 (aw (j6 rfl rfl (by omega)) (show _=Value.int .i64 (((bn bs).2 / 65536:Nat):Int) from congrArg (Value.int .i64) (ig ((bn bs).2) 16 (by decide)))) ?_;refine u1 1 (aw (fg rfl pA oa) (show _=aj (UInt8.ofNat ((bn bs).2 / 65536)) from kq _)) ?_;refine u1 0 (aw (j6 rfl rfl (by omega)) (show _=Value.int .i64 (((bn bs).2 / 256:Nat):Int) from congrArg (Value.int .i64) (ig ((bn bs).2) 8 (by decide)))) ?_;refine u1 1 (aw (fg rfl pA oa) (show _=aj (UInt8.ofNat ((bn bs).2 / 256)) from kq _)) ?_;refine u1 0 (aw (fg rfl pA oa) (show _=aj (UInt8.ofNat ((bn bs).2)) from kq _)) ?_
 intro a I;refine nZ I rfl rfl bd mX rfl rfl rfl (by simp[Value.oneCell',aj]) O ?_;clear I a O;intro A32 w O;intro a I;refine dq I rfl rfl rfl bd mX rfl (O.p 1) (O.rd.src bd (by simp[Value.oneCell',aj])) (by simp only[List.length_append,kL];omega) (by simp only[List.length_append,kL];omega) ?_;clear I a O;intro A33 c33 w hc33 O;have e1:(bs++cU (bn bs).1).map aj++[aj (UInt8.ofNat ((bn bs).2 / 16777216)),aj (UInt8.ofNat ((bn bs).2 / 65536)),aj (UInt8.ofNat ((bn bs).2 / 256)),aj (UInt8.ofNat ((bn bs).2))]=((bs++cU (bn bs).1)++cU (bn bs).2).map aj:=by simp[cU]
 have e2:(bs++cU (bn bs).1).length+4=((bs++cU (bn bs).1)++cU (bn bs).2).length:=by simp[cU]
 intro a I;rw[e1,e2]at O;rw[e2]at I;clear e1 e2;refine rO 5 I ?_;clear I a;refine u1 2 (aw (ad rfl rfl) (show _=Value.int .i64 2 from rfl)) ?_;intro a I;refine aN ?_;refine rC 2 I ?_;clear I a;refine u1 9 (dz (aq rfl rfl) (by omega)) ?_;intro a I;replace I:=I.kp [0,2] rfl;refine rC 7 I ?_;clear I a;refine aY ?_;have ho:(bs++cU (bn bs).1)++cU (bn bs).2=fj bs:=by unfold fj;rw[List.append_assoc]
 rw[ho]at O ⊢;exact⟨_,_,rfl,gy O⟩
structure NL where
 aZ:Int
 s:SL
def NL.d (h:NL):nX:=⟨h.aZ,h.s.d⟩
def im (h:NL):List Value:=[.int .i64 h.aZ,.slice h.s.e.a h.s.e.es.length h.s.e.c,.slice h.s.p.va h.s.p.d.vec.length h.s.p.vc,.slice h.s.p.ca h.s.p.d.ab.length h.s.p.cc,.slice h.s.r.a h.s.r.rs.length h.s.r.c]
theorem Fu (h:NL):(im h).length=5:=rfl
theorem oQ {xs:List NL}{i:Nat}{x:NL}(h:xs[i]?=some x):∀j u,(im x)[j]?=some u→(xs.flatMap im)[i * 5+j]?=some u:=jI Fu h
theorem GA (x:NL)(j:Nat)(u:Value)(e:(rG x.s)[j]?=some u):(im x)[1+j]?=some u:=by
 show (Value.int .i64 x.aZ::rG x.s)[1+j]?=some u;rw[Nat.add_comm,List.getElem?_cons_succ];exact e
theorem jd {hs:List NL}{i:Nat}{x:NL}(h:hs[i]?=some x):(hs.map NL.d)[i]?=some x.d:=by rw[List.getElem?_map,h];rfl
structure DL where
 self:Int
 next:Int
 a:Option Addr
 c:Nat
 hs:List NL
def DL.d (x:DL):dT:=⟨x.self,x.next,x.hs.map NL.d⟩
structure DL.ok (w:World)(x:DL):Prop where
 top:Rd w 5 (.slice x.a x.hs.length x.c) x.hs.length (x.hs.flatMap im)
 each:∀h∈x.hs,h.s.ok w
theorem DL.ok.sat {W w:World}{L:List As}{x:DL}(h:x.ok W)(t:Sat W w L):x.ok w:=⟨h.top.sat t,fun y hy=>(h.each y hy).sat t⟩
structure DL.small (x:DL):Prop where
 len:x.hs.length≤1000000000
 each:∀h∈x.hs,kQ h.s
def SL.ch (ee ei es er:Nat)(s:SL):As:=star (fJ ee s.e.a s.e.c s.e.es) (star (cq ei s.p.va s.p.vc s.p.d.vec) (star (bp es s.p.ca s.p.cc s.p.d.ab) (s.r.ch er ei es)))
section
variable {W w:World} {L:List As} {ee ei es er:Nat} {s:SL}
theorem lY (h:Sat W w (fJ ee s.e.a s.e.c s.e.es::cq ei s.p.va s.p.vc s.p.d.vec::bp es s.p.ca s.p.cc s.p.d.ab::s.r.ch er ei es::L)):Sat W w (s.ch ee ei es er::L):=
 ((((h.p 3).p 3).shut.p 2).shut.p 1).shut
theorem F4 (h:Sat W w (s.ch ee ei es er::L)):Sat W w (fJ ee s.e.a s.e.c s.e.es::cq ei s.p.va s.p.vc s.p.d.vec::bp es s.p.ca s.p.cc s.p.d.ab::s.r.ch er ei es::L):=by
 have x:=(((h.open_.p 1).open_.p 1).open_);exact ((((x.p 1).p 1).p 2).p 3)
theorem SL.J6 (h:Sat W w (s.ch ee ei es er::L)):s.ok w:=SL.sD (F4 h)
end
abbrev dW (ee ei es er:Nat)(hs:List NL):As:=bB (hs.map fun x=>x.s.ch ee ei es er)
section
variable {W w:World} {L:List As} {ee ei es er:Nat} {hs:List NL}
theorem eo (s:Sat W w (dW ee ei es er hs::L)):∀x∈hs,x.s.ok w:=fun x hx=>by
 obtain⟨i,hi⟩:=List.mem_iff_getElem?.1 hx;have h:(hs.map fun x=>x.s.ch ee ei es er)[i]?=some (x.s.ch ee ei es er):=by rw[List.getElem?_map,hi];rfl
 exact SL.J6 (s.dU h)
theorem fA (c:Int)(q:SL)(h:Sat W w (q.ch ee ei es er::dW ee ei es er hs::L)):Sat W w (dW ee ei es er (hs++[⟨c,q⟩])::L):=by
 have h2:=h.wP;unfold dW;rw[List.map_append];exact h2
end
def DL.ch (eh ee ei es er:Nat)(x:DL):As:=star (row eh 5 (.slice x.a x.hs.length x.c) x.hs.length (x.hs.flatMap im)) (dW ee ei es er x.hs)
section
variable {W w:World} {L:List As} {eh ee ei es er:Nat} {x:DL}
theorem DL.Ew {s n:Int}{A:Option Addr}{c:Nat}{hs:List NL}(h:Sat W w (row eh 5 (.slice A hs.length c) hs.length (hs.flatMap im)::dW ee ei es er hs::L)):Sat W w ((⟨s,n,A,c,hs⟩:DL).ch eh ee ei es er::L):=h.shut
end
theorem Jm {d:dT}:kr d=(((decide (0≤d.self) && decide (d.self<16)) && (decide (0≤d.next) && decide (d.next≤4611686018427387904))) && kJ cO none d.hs):=rfl
theorem fm {d:dT}(h:d.self<0∨16≤d.self∨d.next<0∨4611686018427387904<d.next):kr d=false:=by
 rw[Bool.eq_false_iff];intro e;obtain⟨h1,h2,h3,h4,_⟩:=cV e;omega
theorem ll {d:dT}{i:Nat}{x:nX}(hx:d.hs[i]?=some x)(h:cO (ahead none d.hs i) x=false):kr d=false:=by
 rw[Bool.eq_false_iff];intro e;have:=lV (cV e).2.2.2.2 i x hx;rw[h]at this;cases this
theorem tz {d:dT}(h1:0≤d.self)(h2:d.self<16)(h3:0≤d.next)(h4:d.next≤4611686018427387904)(h:∀i x,d.hs[i]?=some x→cO (ahead none d.hs i) x=true):kr d=true:=by
 rw[Jm,decide_eq_true h1,decide_eq_true h2,decide_eq_true h3,decide_eq_true h4,di h];rfl
theorem yu {w:World}{A:Option Addr}{c:Nat}{bs:List UInt8}(h:Rd w 1 (.slice A bs.length c) bs.length (bs.map aj)):Rd w 1 (.slice A (bs.take (bs.length-8)).length (bs.take (bs.length-8)).length) (bs.take (bs.length-8)).length ((bs.take (bs.length-8)).map aj):=by
 have hk:(bs.take (bs.length-8)).length=bs.length-8:=by rw[List.length_take];omega
 have:=h.first (k:=bs.length-8) (by omega)
 rw[Nat.mul_one,←List.map_take]at this;rw[hk];exact this
theorem E2 {A:Option Addr}{bs:List UInt8}(h:8≤bs.length):Value.slice (jW A ((bs.length:Int)-8).toNat 1 0) ((bs.length:Int)-8).toNat ((bs.length:Int)-8).toNat=.slice A (bs.take (bs.length-8)).length (bs.take (bs.length-8)).length:=by
 have hk:(bs.take (bs.length-8)).length=bs.length-8:=by rw[List.length_take];omega
 rw[sB,hk,show ((bs.length:Int)-8).toNat=bs.length-8 from by omega]
theorem str_inj {a b:List UInt8}(h:str a=str b):a=b:=congrArg (fun s:ByteArray=>s.data.toList) h
end Go.Proofs.YtkjabaihpkbfhaaGreat.Wk
namespace Go.Proofs.YtkjabaihpkbfhaaGreat.K
open Go Go.RowKit
variable {P:Program} {ops:Array Oper} {Q:Exit→Act→World→Prop} {S S':World→Prop} {X:List Nat} {W:World} {L:List As} {B C:As}
theorem sQ (hsub:∀w,S' w→S w):∀(fuel:Nat) (listed:Array Bool) (a:Act) (w:World),S' w→bz P ops Q S' [] fuel listed a w→bz P ops Q S X fuel listed a w
 | 0,_,_,_,_,h=>h
 | fuel+1,listed,a,w,hw,h=>⟨h.1,fun i hi=>wpOp_mono (fun a' w' h'=>by
  rcases h'.1 with h1 | h1
  ·
   simp at h1
  ·
   exact⟨.inr fun _=>hsub _ (h1 hw),sQ hsub fuel _ a' w' (h1 hw) h'.2⟩) (h.2 i hi)⟩
theorem lB.wide {w:World}(h:lB W (B::L) w):lB W L w:=by
 obtain⟨M,h⟩:=h;exact⟨M++[B],by rw[List.append_assoc];exact h⟩
theorem IK {fuel:Nat}{listed:Array Bool}{a:Act}{w:World}(h:Sat W w (B::L))(k:bz P ops Q (lB W (B::L)) [] fuel listed a w):bz P ops Q (lB W L) X fuel listed a w:=
 sQ (fun _ x=>lB.wide x) fuel listed a w ⟨[],h⟩ k
end Go.Proofs.YtkjabaihpkbfhaaGreat.K
namespace Go.Proofs.YtkjabaihpkbfhaaGreat.Wk
open Go Go.RowKit Go.Proofs.YtkjabaihpkbfhaaGreat Go.Proofs.YtkjabaihpkbfhaaGreat.K Go.Proofs.YtkjabaihpkbfhaaGreat.T
theorem ri (W:World)(A:Option Addr)(c:Nat)(bs:List UInt8)(hR:Rd W 1 (.slice A bs.length c) bs.length (bs.map aj))(hl:bs.length≤1000000000):Calls Tryz.prog 97 #[.slice A (bs).length c] W fun e w'=>(qW bs∧e=.returned (.tuple #[.slice A (bs.take (bs.length-8)).length (bs.take (bs.length-8)).length,.bool true])∧Sat W w' [])∨(¬qW bs∧∃(A':Option Addr) (n' c':Nat),e=.returned (.tuple #[.slice A' n' c',.bool false])∧Sat W w' []):=by
 refine bS Tryz.func97 [0] ?_;have O:=Sat.start W;refine uC 10 ?_;refine u1 0 (ak rfl bd) ?_;refine aJ 0 0 (aq rfl rfl) ?_ ?_
 ·intro h7;refine uO 11 ?_;refine fo ?_;exact .inr ⟨fun hh=>absurd hh.1 (by omega),none,0,0,rfl,O⟩
 ·intro h7;refine uO 9 ?_;refine u1 0 (ak rfl bd) ?_;refine u1 1 (sb rfl rfl) ?_;refine u1 0 (ak rfl bd) ?_;refine u1 0 (sb rfl rfl) ?_;obtain⟨A_p,rfl⟩:∃q,A=some q:=hR.au (by omega);have hbr:=yu hR;obtain⟨_,c_,hc0,hcc⟩:=hR.form;have hcc:bs.length≤c:=by injection hc0;omega
  have hbl:(bs.take (bs.length-8)).length=bs.length-8:=by rw[List.length_take];omega
  refine u1 4 (aw (Bx rfl rfl rfl bd sL (by omega) (by omega) (by omega)) (E2 (by omega))) ?_;intro a I;refine bf [] O (by kernel_rfl) ?_;replace O:=O.drew;refine rX [0,1,4] I ?_;clear I a;refine cZ 5 [] rfl (by exact⟨[],O⟩) (fun w hT=>have O:=hT.sat;(Cj rfl bd oa yH (hR.sat O))) ?_;intro a I;refine aE 2 (by kernel_rfl) ?_;refine eF I rfl rfl JA rfl (wE _ A_p (bs.take (bs.length-8)) (hbr.sat O) (by omega)) ?_;clear I a;rintro e w ⟨A18,c18,rfl,hT⟩;replace O:=O.aM hT;clear hT;refine⟨_,rfl,?_⟩;intro a I;refine⟨.inr fun _=>(by exact⟨[_],O⟩),?_⟩;refine IK O ?_;refine X1 3 [] I rfl (by exact⟨[],O⟩) (fun w hT=>have O:=hT.sat;(Cj (I.ev rfl) bd oa yH O.rd)) ?_;clear I a;refine bF 6 [7,8] rfl (fun w=>(jl rfl rfl)) ?_;intro a I;refine ah (by kernel_rfl) ?_ _
  refine rE 1 I ?_;clear I a;intro a I;replace I:=I.kp [2,3] rfl;refine rC 1 I ?_;clear I a;refine fo ?_
  by_cases hq:qW bs
  ·rw[decide_eq_true (by rw[←hq.2])];exact .inl ⟨hq,rfl,O.nil⟩
  ·have hd:¬(({ data:=(fj (bs.take (bs.length-8))).toArray }:ByteArray)={ data:=bs.toArray }):=fun hh=>hq ⟨by omega,(str_inj hh).symm⟩
   rw[decide_eq_false hd];exact .inr ⟨hq,_,_,_,rfl,O.nil⟩
theorem pP (W:World)(d:DL)(hp:d.ok W)(hs0:d.small):Calls Tryz.prog 88 #[.agg #[.int .i64 d.self,.int .i64 d.next,.slice d.a d.hs.length d.c]] W fun e w'=>e=.returned (.bool (kr d.d))∧Sat W w' []:=by
 refine bS Tryz.func88 [0] ?_;have O:=Sat.start W;obtain⟨self,next,da,dc,hs⟩:=d;have hR:Rd W 5 (.slice da hs.length dc) hs.length (hs.flatMap im):=hp.top;have hE:∀h∈hs,h.s.ok W:=hp.each;have hl:hs.length≤1000000000:=hs0.len;have hSm:∀h∈hs,kQ h.s:=hs0.each;intro a I;dsimp only at I ⊢;refine rC 2 I ?_;clear I a;refine uB rfl O ?_;clear O;intro b1 w O;refine uO 6 ?_;refine u1 0 (aa rfl uE) ?_;refine u1 0 (ld rfl) ?_;refine aJ 0 0 (aq rfl rfl) ?_ ?_
 ·intro h7;refine uO 25 ?_;refine aY ?_;rw[fm (d:=(DL.d ⟨self,next,_,dc,hs⟩)) (by show self<0∨16≤self∨next<0∨4611686018427387904<next;omega)];exact⟨rfl,O.nil⟩
 ·intro h7;refine uO 1 ?_;refine u1 0 (aa rfl uE) ?_;refine u1 0 (ld rfl) ?_;refine aJ 0 0 (dF rfl rfl) ?_ ?_
  ·intro h11;refine uO 21 ?_;refine aY ?_;rw[fm (d:=(DL.d ⟨self,next,_,dc,hs⟩)) (by show self<0∨16≤self∨next<0∨4611686018427387904<next;omega)];exact⟨rfl,O.nil⟩
  ·intro h11;refine uO 2 ?_;refine u1 0 (aa rfl u0) ?_;refine u1 0 (ld rfl) ?_;refine aJ 0 0 (aq rfl rfl) ?_ ?_
   ·intro h16;refine uO 16 ?_;refine aY ?_;rw[fm (d:=(DL.d ⟨self,next,_,dc,hs⟩)) (by show self<0∨16≤self∨next<0∨4611686018427387904<next;omega)];exact⟨rfl,O.nil⟩
   ·intro h16;refine uO 2 ?_;refine u1 0 (aa rfl u0) ?_;refine u1 0 (ld rfl) ?_;refine aJ 0 0 (cG rfl rfl) ?_ ?_
    ·intro h21;refine uO 11 ?_;refine aY ?_;rw[fm (d:=(DL.d ⟨self,next,_,dc,hs⟩)) (by show self<0∨16≤self∨next<0∨4611686018427387904<next;omega)];exact⟨rfl,O.nil⟩
    ·intro h21;refine uO 9 ?_;refine u1 0 (aa rfl jG) ?_;refine u1 0 (ld rfl) ?_;refine u1 3 (ak rfl og) ?_;intro a I;replace I:=I.kp [1,2,24,25,26] rfl;refine rC 1 I ?_;clear I a;intro a I;refine wp_loop_ghost (fun (mm:Nat) a w=>∃(i:Nat),Ag a 56 [(1,.pointer (some ⟨b1,0,none⟩)),(24,.slice da (hs).length dc),(25,.int .i64 ((hs.length:Nat):Int)),(26,.int .i64 ((i:Nat):Int))]∧Sat W w ([a6 b1 (.cells #[.int .i64 self,.int .i64 next,.slice da hs.length dc] 46)])∧(i≤hs.length)∧(∀j z,j<i→(hs.map NL.d)[j]?=some z→cO (ahead none (hs.map NL.d) j) z=true)∧mm=hs.length-i) hs.length ?_ ?_
     ·replace I:=I.kp [1,24,25,26] rfl;exact⟨0,I,O,(by omega),(by intro j z hj;omega),by omega⟩
     intro m a w hI;clear O I;obtain⟨i,I,O,hi,he,rfl⟩:=hI;refine rC 2 I ?_;clear I a;refine aJ 0 0 (aq rfl rfl) ?_ ?_
     ·intro h27;refine uO 11 ?_;obtain⟨da_p,rfl⟩:∃q,da=some q:=(hR.sat O).au (by omega);obtain⟨x,hx⟩:∃zz_,hs[i]?=some zz_:=⟨_,List.getElem?_eq_getElem (by omega)⟩;refine u1 0 (ix rfl rfl og Dg) ?_;refine u1 0 (aG (cs:=im x) rfl Ka Dg (fun j u e=>bQ (hR.sat O) (oQ hx j u e))) ?_;refine uN JZ O ?_;clear O;intro b4 w O;refine uO 1 ?_;refine uW (vs:=[_,_,_,_,_]) (cs':=[_,_,_,_,_]) rfl rfl Dg O ?_;clear O;intro w O;refine uO 3 ?_;intro a I;refine cF (fun w'=>Sat _ w' _) (by kernel_rfl) (by kernel_rfl) O.drew ?_;refine Q1 0 I (fun w O=>(aa (I.ev rfl) uw)) ?_;clear I a;refine bj 0 (fun w O=>(ld rfl)) ?_;intro a I;refine K.sE I rfl rfl rfl (fun w O=>(aq (I.ev rfl) (I.ev rfl))) ?_ ?_
      ·clear I a;intro h33;refine uQ 21 ?_;intro a I;refine wpQuiet_nil ?_;clear O;intro w O;refine rE 13 I ?_;clear I a;refine aY ?_
       have hst:cO (ahead none (hs.map NL.d) i) x.d=false:=by
        unfold cO;rw[show x.d.aZ=x.aZ from rfl];rw[decide_eq_false (by omega)];rfl
       rw[ll (d:=(DL.d ⟨self,next,_,dc,hs⟩)) (jd hx) hst];exact⟨rfl,O.nil⟩
      ·clear I a;intro h33;refine uQ 1 ?_;refine bj 0 (fun w O=>(aa rfl uw)) ?_;refine bj 0 (fun w O=>(ld rfl)) ?_;intro a I;refine K.oU I (aT I rfl rfl rfl) rfl rfl (fun w O=>(dF (I.ev rfl) (I.ev rfl))) ?_ ?_
       ·clear I a;intro h37;refine uQ 17 ?_;intro a I;refine wpQuiet_nil ?_;clear O;intro w O;refine rE 13 I ?_;clear I a;refine aY ?_
        have hst:cO (ahead none (hs.map NL.d) i) x.d=false:=by
         unfold cO;rw[show x.d.aZ=x.aZ from rfl];rw[decide_eq_true (show (0:Int)≤x.aZ by omega),decide_eq_false (by omega)];rfl
        rw[ll (d:=(DL.d ⟨self,next,_,dc,hs⟩)) (jd hx) hst];exact⟨rfl,O.nil⟩
       ·clear I a;intro h37;refine uQ 3 ?_;intro a I;refine K.oU I (aT I rfl rfl rfl) rfl rfl (fun w O=>(cG (I.ev rfl) (I.ev rfl))) ?_ ?_
        ·clear I a;intro h41;refine uQ 1 ?_;refine bj 0 (fun w O=>(aa rfl uw)) ?_;refine bj 0 (fun w O=>(ld rfl)) ?_;refine bj 0 (fun w O=>(aa rfl jG)) ?_;refine bj 1 (fun w O=>(ld rfl)) ?_;refine bj 0 (fun w O=>(aw (sb rfl rfl) (show _=Value.int .i64 ((i-1:Nat):Int) from congrArg (Value.int .i64) (by omega)))) ?_;obtain⟨y,hy⟩:∃zz_,hs[i-1]?=some zz_:=⟨_,List.getElem?_eq_getElem (by omega)⟩;refine bj 0 (fun w O=>(ix rfl rfl og Dg)) ?_;refine bj 0 (fun w O=>(aC rfl uw)) ?_;refine bj 0 (fun w O=>(an rfl dA (bQ (hR.sat O) (oQ hy 0 _ rfl)))) ?_;intro a I;refine K.oU I (aT I rfl rfl rfl) rfl rfl (fun w O=>(dD (I.ev rfl) (I.ev rfl))) ?_ ?_
         ·clear I a;intro h52;refine uQ 2 ?_;intro a I;refine wpQuiet_nil ?_;clear O;intro w O;refine rE 13 I ?_;clear I a;refine aY ?_
          have hst:cO (ahead none (hs.map NL.d) i) x.d=false:=by
           unfold cO;rw[show x.d.aZ=x.aZ from rfl];rw[decide_eq_true (show (0:Int)≤x.aZ by omega),decide_eq_true (show x.aZ<64 by omega)];unfold ahead;rw[if_neg (by omega),jd hy];show (true && true && decide (y.aZ<x.aZ))=_;rw[decide_eq_false (by omega)];rfl
          rw[ll (d:=(DL.d ⟨self,next,_,dc,hs⟩)) (jd hx) hst];exact⟨rfl,O.nil⟩
         ·clear I a;intro h52;refine uQ 2 ?_;intro a I;refine wpQuiet_nil ?_;clear O;intro w O;refine rE 6 I ?_;clear I a;refine u1 2 (ad rfl rfl) ?_;intro a I;replace I:=I.kp [1,24,25,26] rfl
          have hst:cO (ahead none (hs.map NL.d) i) x.d=true:=by
           unfold cO;rw[show x.d.aZ=x.aZ from rfl];rw[decide_eq_true (show (0:Int)≤x.aZ by omega),decide_eq_true (show x.aZ<64 by omega)];unfold ahead;rw[if_neg (by omega),jd hy];show (true && true && decide (y.aZ<x.aZ))=_;rw[decide_eq_true (by omega)];rfl
          exact⟨hs.length-(i+1),by omega,i+1,I,O.drop,by omega,fun j z hj hz=>(by rcases Nat.lt_or_ge j i with h | h;exact he j z h hz;obtain rfl:j=i:=(by omega);rw[jd hx]at hz;cases hz;exact hst),rfl⟩
        ·clear I a;intro h41;refine uQ 13 ?_;intro a I;refine wpQuiet_nil ?_;clear O;intro w O;refine rE 6 I ?_;clear I a;refine u1 2 (ad rfl rfl) ?_;intro a I;replace I:=I.kp [1,24,25,26] rfl
         have hst:cO (ahead none (hs.map NL.d) i) x.d=true:=by
          unfold cO;rw[show x.d.aZ=x.aZ from rfl];rw[decide_eq_true (show (0:Int)≤x.aZ by omega),decide_eq_true (show x.aZ<64 by omega)];unfold ahead;rw[if_pos (by omega)];rfl
         exact⟨hs.length-(i+1),by omega,i+1,I,O.drop,by omega,fun j z hj hz=>(by rcases Nat.lt_or_ge j i with h | h;exact he j z h hz;obtain rfl:j=i:=(by omega);rw[jd hx]at hz;cases hz;exact hst),rfl⟩
     ·intro h27;refine uO 15 ?_;refine aY ?_;rw[tz (d:=(DL.d ⟨self,next,_,dc,hs⟩)) (by show 0≤self;omega) (by show self<16;omega) (by show 0≤next;omega) (by show next≤_;omega) (fun j z hz=>he j z (by have:=(List.getElem?_eq_some_iff.1 hz).1;simp only[DL.d,List.length_map]at this;omega) hz)];exact⟨rfl,O.nil⟩
theorem pI (W:World)(d:DL)(hp:d.ok W)(hs0:d.small):Calls Tryz.prog 94 #[.agg #[.int .i64 d.self,.int .i64 d.next,.slice d.a d.hs.length d.c]] W fun e w'=>e=.returned (.bool (kr d.d))∧Sat W w' []:=by
 refine bS Tryz.func94 [0] ?_;have O:=Sat.start W;obtain⟨self,next,da,dc,hs⟩:=d;have hR:Rd W 5 (.slice da hs.length dc) hs.length (hs.flatMap im):=hp.top;have hE:∀h∈hs,h.s.ok W:=hp.each;have hl:hs.length≤1000000000:=hs0.len;have hSm:∀h∈hs,kQ h.s:=hs0.each;intro a I;dsimp only at I ⊢;refine rC 2 I ?_;clear I a;refine uB rfl O ?_;clear O;intro b1 w O;refine uO 6 ?_;refine u1 0 (aa rfl tH) ?_;refine u1 0 (ld rfl) ?_;refine aJ 0 0 (aq rfl rfl) ?_ ?_
 ·intro h7;refine uO 25 ?_;refine aY ?_;rw[fm (d:=(DL.d ⟨self,next,_,dc,hs⟩)) (by show self<0∨16≤self∨next<0∨4611686018427387904<next;omega)];exact⟨rfl,O.nil⟩
 ·intro h7;refine uO 1 ?_;refine u1 0 (aa rfl tH) ?_;refine u1 0 (ld rfl) ?_;refine aJ 0 0 (dF rfl rfl) ?_ ?_
  ·intro h11;refine uO 21 ?_;refine aY ?_;rw[fm (d:=(DL.d ⟨self,next,_,dc,hs⟩)) (by show self<0∨16≤self∨next<0∨4611686018427387904<next;omega)];exact⟨rfl,O.nil⟩
  ·intro h11;refine uO 2 ?_;refine u1 0 (aa rfl tW) ?_;refine u1 0 (ld rfl) ?_;refine aJ 0 0 (aq rfl rfl) ?_ ?_
   ·intro h16;refine uO 16 ?_;refine aY ?_;rw[fm (d:=(DL.d ⟨self,next,_,dc,hs⟩)) (by show self<0∨16≤self∨next<0∨4611686018427387904<next;omega)];exact⟨rfl,O.nil⟩
   ·intro h16;refine uO 2 ?_;refine u1 0 (aa rfl tW) ?_;refine u1 0 (ld rfl) ?_;refine aJ 0 0 (cG rfl rfl) ?_ ?_
    ·intro h21;refine uO 11 ?_;refine aY ?_;rw[fm (d:=(DL.d ⟨self,next,_,dc,hs⟩)) (by show self<0∨16≤self∨next<0∨4611686018427387904<next;omega)];exact⟨rfl,O.nil⟩
    ·intro h21;refine uO 9 ?_;refine u1 0 (aa rfl jB) ?_;refine u1 0 (ld rfl) ?_;refine u1 3 (ak rfl o3) ?_;intro a I;replace I:=I.kp [1,2,24,25,26] rfl;refine rC 1 I ?_;clear I a;intro a I;refine wp_loop_ghost (fun (mm:Nat) a w=>∃(i:Nat),Ag a 56 [(1,.pointer (some ⟨b1,0,none⟩)),(24,.slice da (hs).length dc),(25,.int .i64 ((hs.length:Nat):Int)),(26,.int .i64 ((i:Nat):Int))]∧Sat W w ([a6 b1 (.cells #[.int .i64 self,.int .i64 next,.slice da hs.length dc] 50)])∧(i≤hs.length)∧(∀j z,j<i→(hs.map NL.d)[j]?=some z→cO (ahead none (hs.map NL.d) j) z=true)∧mm=hs.length-i) hs.length ?_ ?_
     ·replace I:=I.kp [1,24,25,26] rfl;exact⟨0,I,O,(by omega),(by intro j z hj;omega),by omega⟩
     intro m a w hI;clear O I;obtain⟨i,I,O,hi,he,rfl⟩:=hI;refine rC 2 I ?_;clear I a;refine aJ 0 0 (aq rfl rfl) ?_ ?_
     ·intro h27;refine uO 11 ?_;obtain⟨da_p,rfl⟩:∃q,da=some q:=(hR.sat O).au (by omega);obtain⟨x,hx⟩:∃zz_,hs[i]?=some zz_:=⟨_,List.getElem?_eq_getElem (by omega)⟩;refine u1 0 (ix rfl rfl o3 Ee) ?_;refine u1 0 (aG (cs:=im x) rfl JX Ee (fun j u e=>bQ (hR.sat O) (oQ hx j u e))) ?_;refine uN JD O ?_;clear O;intro b4 w O;refine uO 1 ?_;refine uW (vs:=[_,_,_,_,_]) (cs':=[_,_,_,_,_]) rfl rfl Ee O ?_;clear O;intro w O;refine uO 3 ?_;intro a I;refine cF (fun w'=>Sat _ w' _) (by kernel_rfl) (by kernel_rfl) O.drew ?_;refine Q1 0 I (fun w O=>(aa (I.ev rfl) vz)) ?_;clear I a;refine bj 0 (fun w O=>(ld rfl)) ?_;intro a I;refine K.sE I rfl rfl rfl (fun w O=>(aq (I.ev rfl) (I.ev rfl))) ?_ ?_
      ·clear I a;intro h33;refine uQ 21 ?_;intro a I;refine wpQuiet_nil ?_;clear O;intro w O;refine rE 13 I ?_;clear I a;refine aY ?_
       have hst:cO (ahead none (hs.map NL.d) i) x.d=false:=by
        unfold cO;rw[show x.d.aZ=x.aZ from rfl];rw[decide_eq_false (by omega)];rfl
       rw[ll (d:=(DL.d ⟨self,next,_,dc,hs⟩)) (jd hx) hst];exact⟨rfl,O.nil⟩
      ·clear I a;intro h33;refine uQ 1 ?_;refine bj 0 (fun w O=>(aa rfl vz)) ?_;refine bj 0 (fun w O=>(ld rfl)) ?_;intro a I;refine K.oU I (aT I rfl rfl rfl) rfl rfl (fun w O=>(dF (I.ev rfl) (I.ev rfl))) ?_ ?_
       ·clear I a;intro h37;refine uQ 17 ?_;intro a I;refine wpQuiet_nil ?_;clear O;intro w O;refine rE 13 I ?_;clear I a;refine aY ?_
        have hst:cO (ahead none (hs.map NL.d) i) x.d=false:=by
         unfold cO;rw[show x.d.aZ=x.aZ from rfl];rw[decide_eq_true (show (0:Int)≤x.aZ by omega),decide_eq_false (by omega)];rfl
        rw[ll (d:=(DL.d ⟨self,next,_,dc,hs⟩)) (jd hx) hst];exact⟨rfl,O.nil⟩
       ·clear I a;intro h37;refine uQ 3 ?_;intro a I;refine K.oU I (aT I rfl rfl rfl) rfl rfl (fun w O=>(cG (I.ev rfl) (I.ev rfl))) ?_ ?_
        ·clear I a;intro h41;refine uQ 1 ?_;refine bj 0 (fun w O=>(aa rfl vz)) ?_;refine bj 0 (fun w O=>(ld rfl)) ?_;refine bj 0 (fun w O=>(aa rfl jB)) ?_;refine bj 1 (fun w O=>(ld rfl)) ?_;refine bj 0 (fun w O=>(aw (sb rfl rfl) (show _=Value.int .i64 ((i-1:Nat):Int) from congrArg (Value.int .i64) (by omega)))) ?_;obtain⟨y,hy⟩:∃zz_,hs[i-1]?=some zz_:=⟨_,List.getElem?_eq_getElem (by omega)⟩;refine bj 0 (fun w O=>(ix rfl rfl o3 Ee)) ?_;refine bj 0 (fun w O=>(aC rfl vz)) ?_;refine bj 0 (fun w O=>(an rfl dA (bQ (hR.sat O) (oQ hy 0 _ rfl)))) ?_;intro a I;refine K.oU I (aT I rfl rfl rfl) rfl rfl (fun w O=>(dD (I.ev rfl) (I.ev rfl))) ?_ ?_
         ·clear I a;intro h52;refine uQ 2 ?_;intro a I;refine wpQuiet_nil ?_;clear O;intro w O;refine rE 13 I ?_;clear I a;refine aY ?_
          have hst:cO (ahead none (hs.map NL.d) i) x.d=false:=by
           unfold cO;rw[show x.d.aZ=x.aZ from rfl];rw[decide_eq_true (show (0:Int)≤x.aZ by omega),decide_eq_true (show x.aZ<64 by omega)];unfold ahead;rw[if_neg (by omega),jd hy];show (true && true && decide (y.aZ<x.aZ))=_;rw[decide_eq_false (by omega)];rfl
          rw[ll (d:=(DL.d ⟨self,next,_,dc,hs⟩)) (jd hx) hst];exact⟨rfl,O.nil⟩
         ·clear I a;intro h52;refine uQ 2 ?_;intro a I;refine wpQuiet_nil ?_;clear O;intro w O;refine rE 6 I ?_;clear I a;refine u1 2 (ad rfl rfl) ?_;intro a I;replace I:=I.kp [1,24,25,26] rfl
          have hst:cO (ahead none (hs.map NL.d) i) x.d=true:=by
           unfold cO;rw[show x.d.aZ=x.aZ from rfl];rw[decide_eq_true (show (0:Int)≤x.aZ by omega),decide_eq_true (show x.aZ<64 by omega)];unfold ahead;rw[if_neg (by omega),jd hy];show (true && true && decide (y.aZ<x.aZ))=_;rw[decide_eq_true (by omega)];rfl
          exact⟨hs.length-(i+1),by omega,i+1,I,O.drop,by omega,fun j z hj hz=>(by rcases Nat.lt_or_ge j i with h | h;exact he j z h hz;obtain rfl:j=i:=(by omega);rw[jd hx]at hz;cases hz;exact hst),rfl⟩
        ·clear I a;intro h41;refine uQ 13 ?_;intro a I;refine wpQuiet_nil ?_;clear O;intro w O;refine rE 6 I ?_;clear I a;refine u1 2 (ad rfl rfl) ?_;intro a I;replace I:=I.kp [1,24,25,26] rfl
         have hst:cO (ahead none (hs.map NL.d) i) x.d=true:=by
          unfold cO;rw[show x.d.aZ=x.aZ from rfl];rw[decide_eq_true (show (0:Int)≤x.aZ by omega),decide_eq_true (show x.aZ<64 by omega)];unfold ahead;rw[if_pos (by omega)];rfl
         exact⟨hs.length-(i+1),by omega,i+1,I,O.drop,by omega,fun j z hj hz=>(by rcases Nat.lt_or_ge j i with h | h;exact he j z h hz;obtain rfl:j=i:=(by omega);rw[jd hx]at hz;cases hz;exact hst),rfl⟩
     ·intro h27;refine uO 15 ?_;refine aY ?_;rw[tz (d:=(DL.d ⟨self,next,_,dc,hs⟩)) (by show 0≤self;omega) (by show self<16;omega) (by show 0≤next;omega) (by show next≤_;omega) (fun j z hz=>he j z (by have:=(List.getElem?_eq_some_iff.1 hz).1;simp only[DL.d,List.length_map]at this;omega) hz)];exact⟨rfl,O.nil⟩
theorem Ci {hs:List nX}(h:kJ cO none hs=true):∀(i:Nat) (x:nX),hs[i]?=some x→(i:Int)≤x.aZ
 | 0, x, hx => by
   have:=lV h 0 x hx;unfold cO at this;simp only[Bool.and_eq_true,decide_eq_true_eq]at this;omega
 | i + 1, x, hx => by
   have hi:=(List.getElem?_eq_some_iff.1 hx).1;have hy:hs[i]?=some hs[i]:=List.getElem?_eq_getElem (by omega);have h1:=Ci h i _ hy;have h2:=lV h (i+1) x hx;unfold cO ahead at h2;rw[if_neg (by omega),Nat.add_sub_cancel,hy]at h2;simp only[Bool.and_eq_true,decide_eq_true_eq]at h2;omega
theorem kO {hs:List nX}(h:kJ cO none hs=true):hs.length≤64:=by
 rcases Nat.eq_zero_or_pos hs.length with h0 | h0
 ·
  omega
 ·
  have hx:hs[hs.length-1]?=some hs[hs.length-1]:=List.getElem?_eq_getElem (by omega);have h1:=Ci h _ _ hx;have h2:=rh h _ (List.mem_of_getElem? hx);omega
theorem Cq {f:iR→Bool}{d:dT}{x:nX}(hx:x∈d.hs)(h:f x.st=false):ju f d=false:=by
 rw[Bool.eq_false_iff];intro e;have:=tF e x hx;rw[h]at this;cases this
theorem eJ {f:iR→Bool}{d:dT}(h:kr d=false):ju f d=false:=by unfold ju;rw[h];rfl
theorem sl {f:iR→Bool}{d:dT}(h:kr d=true)(h2:∀x∈d.hs,f x.st=true):ju f d=true:=by
 unfold ju;rw[h,Bool.true_and,List.all_eq_true];exact h2
theorem BK {k:Nat}{s:SL}(hk:k≤2)(hf:aH s.d=true)(hs:kQ s):(cC k s.d).length≤7200000000:=by
 obtain⟨h1,h2,h3⟩:=aA hf;have hes:s.d.jn.length≤16777216:=hs.es;have hpc:s.d.bx.ab.length≤16777216:=hs.pc
 have hrs:dm (s.d.mw.map bK.bx)≤16777216:=by
  have:=hs.rs;show dm ((s.r.rs.map RL.d).map bK.bx)≤_;rw[kS];exact this
 have k1:=tO (o9 h1) (by omega);have k2:=ss (jT.1 h2).toDP (by omega);have k3:=p8 (fX h3) (by omega);have k4:=nine (n:=(fb s.d.jn).length) (by omega);have k5:=nine (n:=(eH s.d.bx).length) (by omega);have k6:=nine (n:=(dO s.d.mw).length) (by omega);have k7:=nine (n:=k) (by omega);unfold cC fr;simp only[List.length_append];omega
theorem vQ {k:Nat}{hs:List NL}{i:Nat}{x:NL}(h:hs[i]?=some x):bq k ((hs.take (i+1)).map NL.d)=bq k ((hs.take i).map NL.d)++(aV x.aZ.toNat++(aV (cC k x.s.d).length++cC k x.s.d)):=by
 rw[aF h,List.map_append,pK];congr 1;show (oq k x.d++[])=_;rw[List.append_nil];rfl
theorem Fv {s n c:Nat}(h1:s≤9223372036854775807)(h2:n≤9223372036854775807)(h3:c≤9223372036854775807):(dh s n c).length≤40:=by
 have a:=nine h1;have b:=nine h2;have d:=nine h3;have e:=nine (n:=3) (by omega);unfold dh;simp only[List.length_append];omega
def iv (k:Nat)(f:iR→Bool)(bs:List UInt8):Prop:=∀d:dT,ju f d=true→bs≠dp k d
theorem ie {cQ:Int}{v:Nat}{r:List UInt8}(h:(v:Int)≤cQ)(h2:v≤9223372036854775807):bh cQ (aV v++r)=some (v,r):=aW.2 ⟨rfl,h,h2⟩
theorem mZ (k:Nat)(d:dT):dp k d=aV 3++(aV d.self.toNat++(aV d.next.toNat++(aV d.hs.length++bq k d.hs))):=by
 unfold dp dh;simp only[List.append_assoc]
section
variable {k:Nat} {f:iR→Bool} {bs r0 r1 r2:List UInt8} {v s n:Nat}
theorem Km (h:bh 3 bs=none):iv k f bs:=fun d _ e=>by
 rw[e,mZ,ie (by decide) (by decide)]at h;cases h
theorem Kp (h:bh 3 bs=some (v,r0))(hv:(v:Int)≠3):iv k f bs:=fun d _ e=>by
 rw[e,mZ,ie (by decide) (by decide)]at h;cases h;exact hv rfl
theorem Il (h:bh 3 bs=some (v,r0))(h1:bh 16 r0=none):iv k f bs:=fun d hd e=>by
 obtain⟨a1,a2,a3,a4,_⟩:=cV (fI hd);rw[e,mZ,ie (by decide) (by decide)]at h;cases h;rw[ie (by omega) (by omega)]at h1;cases h1
theorem Jv (h:bh 3 bs=some (v,r0))(h1:bh 16 r0=some (s,r1))(h2:bh 4611686018427387904 r1=none):iv k f bs:=fun d hd e=>by
 obtain⟨a1,a2,a3,a4,_⟩:=cV (fI hd);rw[e,mZ,ie (by decide) (by decide)]at h;cases h;rw[ie (by omega) (by omega)]at h1;cases h1;rw[ie (by omega) (by omega)]at h2;cases h2
theorem JO (h:bh 3 bs=some (v,r0))(h1:bh 16 r0=some (s,r1))(h2:bh 4611686018427387904 r1=some (n,r2))(h3:bh 9223372036854775807 r2=none∨∃(c:Nat) (rr:List UInt8),bh 9223372036854775807 r2=some (c,rr)∧rr.length<c * 2):iv k f bs:=fun d hd e=>by
 obtain⟨a1,a2,a3,a4,a5⟩:=cV (fI hd);have hl:=kO a5;rw[e,mZ,ie (by decide) (by decide)]at h;cases h;rw[ie (by omega) (by omega)]at h1;cases h1;rw[ie (by omega) (by omega)]at h2;cases h2;rw[ie (by omega) (by omega)]at h3;rcases h3 with h3 | ⟨c,rr,h3,h4⟩
 ·
  cases h3
 ·
  cases h3;have:=o4 k d.hs;omega
theorem vS {c:Nat}(h:bh 3 bs=some (v,r0))(hv:v=3)(h1:bh 16 r0=some (s,r1))(h2:bh 4611686018427387904 r1=some (n,r2)){a:Nat}(h3:bh 9223372036854775807 r2=some (c,bs.drop a)):bs=dh s n c++(bq k ([]:List nX)++bs.drop a):=by
 subst hv;obtain⟨e0,_,_⟩:=aW.1 h;obtain⟨e1,_,_⟩:=aW.1 h1;obtain⟨e2,_,_⟩:=aW.1 h2;obtain⟨e3,_,_⟩:=aW.1 h3
 conv=>lhs;rw[e0,e1,e2,e3]
 unfold dh bq;simp only[List.append_assoc,List.flatMap_nil,List.nil_append]
end
def ve (f:iR→Bool)(hs:List NL):Prop:=∀h∈hs,0≤h.aZ∧h.aZ≤9223372036854775807∧f h.s.d=true∧kQ h.s
section
variable {k:Nat} {f:iR→Bool} {bs:List UInt8} {s n c a:Nat} {hs:List NL}
theorem et (hk:k≤2)(hf:∀d,f d=true→aH d=true)(hL:bs.length≤16777216)(hs1:s≤9223372036854775807)(hn1:n≤9223372036854775807)(hc1:c≤9223372036854775807)(hg:ve f hs)(hl:hs.length≤c)
 (he:bs=dh s n c++(bq k (hs.map NL.d)++bs.drop a)) {d:dT} (hd:ju f d=true) (e:bs=dp k d):∃zs,d.hs=hs.map NL.d++zs∧bs.drop a=bq k zs∧zs.length+hs.length=c∧d.self=(s:Int)∧d.next=(n:Int):=by
 obtain⟨a1,a2,a3,a4,a5⟩:=cV (fI hd);have hcl:=kO a5
 have e2:dh d.self.toNat d.next.toNat d.hs.length++bq k d.hs=dh s n c++(bq k (hs.map NL.d)++bs.drop a):=by
  rw[←he];exact e.symm
 obtain⟨b1,b2,b3,b4⟩:=yV (by omega) (by omega) (by omega) hs1 hn1 hc1 e2;have hlb:(bq k d.hs).length≤bs.length:=by rw[e];unfold dp;rw[List.length_append];omega
 obtain⟨zs,h6,h7⟩:=oV hk hf (hs.map NL.d) d.hs (bs.drop a) (fun x hx=>by
  obtain⟨y,hy,rfl⟩:=List.mem_map.1 hx;obtain⟨g1,g2,g3,_⟩:=hg y hy;exact⟨g1,by show y.aZ<_;omega,g3⟩) (vC hd) (by rw[List.length_map];omega) (by omega) b4
 refine⟨zs,h6,h7,?_,by omega,by omega⟩;have:=congrArg List.length h6;rw[List.length_append,List.length_map]at this;omega
theorem wJ {zs:List nX}(h:bs.drop a=bq k zs)(hz:0<zs.length):∃z zs',zs=z::zs'∧bs.drop a=aV z.aZ.toNat++(aV (cC k z.st).length++cC k z.st++bq k zs'):=by
 cases zs with
 | nil=>simp at hz
 | cons z zs' =>
   refine⟨z,zs',rfl,?_⟩;rw[h,iL];unfold oq fr;simp only[List.append_assoc]
theorem tn (S:∀d,ju f d=true→bs=dp k d→∃zs,d.hs=hs.map NL.d++zs∧bs.drop a=bq k zs∧zs.length+hs.length=c∧d.self=(s:Int)∧d.next=(n:Int))(hi:hs.length<c)(h:bh 64 (bs.drop a)=none):iv k f bs:=fun d hd e=>by
 obtain⟨zs,h1,h2,h3,_⟩:=S d hd e;obtain⟨z,zs',rfl,h4⟩:=wJ h2 (by omega);obtain⟨hz1,hz2⟩:=rh (cV (fI hd)).2.2.2.2 z (by rw[h1];simp);rw[h4,ie (by omega) (by omega)]at h;cases h
theorem Ce (hL:bs.length≤16777216)(S:∀d,ju f d=true→bs=dp k d→∃zs,d.hs=hs.map NL.d++zs∧bs.drop a=bq k zs∧zs.length+hs.length=c∧d.self=(s:Int)∧d.next=(n:Int))(hi:hs.length<c){mo:Int}{v:Nat}{r:List UInt8}(h:bh mo (bs.drop a)=some (v,r)){d:dT}(hd:ju f d=true)(e:bs=dp k d) :
 ∃z:nX,f z.st=true∧z.aZ=(v:Int)∧∃rr,cy 9223372036854775807 r=some (cC k z.st,rr):=by
 obtain⟨zs,h1,h2,h3,_⟩:=S d hd e;obtain⟨z,zs',rfl,h4⟩:=wJ h2 (by omega);have hzm:z∈d.hs:=by rw[h1];simp
 obtain⟨hz1,hz2⟩:=rh (cV (fI hd)).2.2.2.2 z hzm;obtain⟨e1,_,e3⟩:=aW.1 h;rw[h4]at e1;obtain⟨e4,e5⟩:=k8 (by omega) e3 e1
 have hsl:(cC k z.st).length≤bs.length:=by
  have:=congrArg List.length h4;simp only[List.length_append,List.length_drop]at this;omega
 exact⟨z,tF hd z hzm,by omega,bq k zs',dY.2 ⟨e5.symm,by omega,by omega⟩⟩
theorem iI {v a1 a2:Nat}{mo mo2:Int}{st:SL}(he:bs=dh s n c++(bq k (hs.map NL.d)++bs.drop a))(h1:bh mo (bs.drop a)=some (v,bs.drop a1))(h2:cy mo2 (bs.drop a1)=some (cC k st.d,bs.drop a2)):bs=dh s n c++(bq k ((hs++[(⟨(v:Int),st⟩:NL)]).map NL.d)++bs.drop a2):=by
 obtain⟨e1,_,_⟩:=aW.1 h1;obtain⟨e2,_,_⟩:=dY.1 h2
 conv=>lhs;rw[he,e1,e2]
 rw[List.map_append,pK];show _=dh s n c++(bq k (hs.map NL.d)++(oq k ⟨(v:Int),st.d⟩++[])++bs.drop a2);unfold oq fr;rw[Int.toNat_natCast];simp only[List.append_assoc,List.append_nil]
theorem CV (S:∀d,ju f d=true→bs=dp k d→∃zs,d.hs=hs.map NL.d++zs∧bs.drop a=bq k zs∧zs.length+hs.length=c∧d.self=(s:Int)∧d.next=(n:Int))(hi:hs.length=c)(h:bs.drop a≠[]):iv k f bs:=fun d hd e=>by
 obtain⟨zs,h1,h2,h3,_⟩:=S d hd e;have:zs=[]:=List.eq_nil_of_length_eq_zero (by omega);subst this;exact h h2
theorem pz (S:∀d,ju f d=true→bs=dp k d→∃zs,d.hs=hs.map NL.d++zs∧bs.drop a=bq k zs∧zs.length+hs.length=c∧d.self=(s:Int)∧d.next=(n:Int))(hi:hs.length=c){d:dT}(hd:ju f d=true)(e:bs=dp k d):d=⟨(s:Int),(n:Int),hs.map NL.d⟩:=by
 obtain⟨zs,h1,h2,h3,h4,h5⟩:=S d hd e;have:zs=[]:=List.eq_nil_of_length_eq_zero (by omega);subst this;cases d;simp only[List.append_nil]at h1 h4 h5;subst h1 h4 h5
 rfl
theorem ma (hL:bs.length≤16777216)(S:∀d,ju f d=true→bs=dp k d→∃zs,d.hs=hs.map NL.d++zs∧bs.drop a=bq k zs∧zs.length+hs.length=c∧d.self=(s:Int)∧d.next=(n:Int))(hi:hs.length<c){mo:Int}{v:Nat}{r:List UInt8}(h:bh mo (bs.drop a)=some (v,r))(h2:cy 9223372036854775807 r=none):iv k f bs:=fun d hd e=>by
 obtain⟨z,_,_,rr,h3⟩:=Ce hL S hi h hd e;rw[h2]at h3;cases h3
theorem sZ (hL:bs.length≤16777216)(S:∀d,ju f d=true→bs=dp k d→∃zs,d.hs=hs.map NL.d++zs∧bs.drop a=bq k zs∧zs.length+hs.length=c∧d.self=(s:Int)∧d.next=(n:Int))(hi:hs.length<c){mo:Int}{v:Nat}{r t r2:List UInt8}(h:bh mo (bs.drop a)=some (v,r))(h2:cy 9223372036854775807 r=some (t,r2))(h3:my k f t):iv k f bs:=fun d hd e=>by
 obtain⟨z,hz,_,rr,h4⟩:=Ce hL S hi h hd e;rw[h2]at h4
 injection h4 with h4
 exact h3 z.st hz (Prod.mk.inj h4).1
end
def GU (bs:List UInt8)(b7 bE:Nat)(L:List As)(at' err:Int)(ok:Bool)(M:List As):Prop:=(ok=true∧err=0∧∃(s n:Nat) (hs:List NL) (Ah:Option Addr) (ch_ a:Nat),at'=(a:Int)∧a≤bs.length∧bs=dh s n hs.length++(bq 1 (hs.map NL.d)++bs.drop a)∧(s:Int)≤16∧(n:Int)≤4611686018427387904∧ve aH hs∧hs.length * 2≤bs.length∧M=a6 b7 (.cells #[.int .i64 (s:Int),.int .i64 (n:Int),.slice Ah hs.length ch_] 46)::row 68 5 (.slice Ah hs.length ch_) hs.length (hs.flatMap im)::dW 216 3 219 206 hs::a6 bE (.cells #[] 109)::L)∨(ok=false∧err≠0∧iv 1 aH bs∧∃N:List As,M=N++L)
theorem y4 (W w:World)(L:List As)(r q p b7 bE:Nat)(A:Option Addr)(c:Nat)(bs:List UInt8)(O:Sat W w (hZ r A c bs 0 true 0::iN q r::hP p 0::a6 b7 (.cells #[.int .i64 0,.int .i64 0,.slice none 0 0] 46)::a6 bE (.cells #[] 109)::L))(hb:bs.length≤16777216)(hR:Rd W 1 (.slice A bs.length c) bs.length (bs.map aj)):Calls Tryz.prog 99 #[.pointer (some ⟨r,0,none⟩),.pointer (some ⟨b7,0,none⟩),.pointer (some ⟨bE,0,none⟩)] w fun e w'=>∃(at' err:Int) (ok:Bool) (M:List As),BN r ok e∧Sat W w' (hZ r A c bs at' true err::iN q r::hP p 0::M)∧GU bs b7 bE L at' err ok M:=by
 refine bS Tryz.func99 [0,1,2] ?_;have hbl:bs.length≤16777216:=hb;intro a I;change Sat W w (hZ r A c bs ((0:Nat):Int) true 0::_) at O;refine rC 4 I ?_;clear I a;intro a I;refine eu I rfl gY rfl (cb _ _ _ r A c bs 0 3 O (by omega) (by omega) (fun w h=>hR.sat h)) ?_;rintro e w (⟨v8,at8,hn8,ha8,hv8,hw8,rfl,hS'⟩ | ⟨hn8,⟨older,rfl,ho⟩,at',er,hne,hS'⟩)
 ·clear O;have O:=hS';clear hS';refine .inl ⟨_,rfl,?_⟩;clear I a;intro a I
  try rw[List.drop_zero]at hn8
  refine J9 0 0 I (aD (I.ev rfl) (I.ev rfl)) ?_ ?_
  ·clear I a;intro h9;refine uO 5 ?_;intro a I;refine eu I rfl lO rfl (cW _ _ _ r A c bs at8 8 O (by omega) (by omega) (fun w h=>hR.sat h)) ?_;rintro e w ⟨⟨older,rfl,ho⟩,at',hS'⟩
   ·refine .inr ⟨_,rfl,?_⟩;refine rE 1 I ?_;clear I a;intro a I;refine dj I ?_;clear O;have O:=hS';clear hS';exact⟨at',8,false,_,.inr ⟨rfl,.inl ⟨older,rfl,ho⟩⟩,O,.inr ⟨rfl,by decide,Kp hn8 (by omega),(by exact⟨[_,_],rfl⟩)⟩⟩
  ·clear I a;intro h9;refine uO 8 ?_;intro a I;refine eu I rfl gY rfl (cb _ _ _ r A c bs at8 16 O (by omega) (by omega) (fun w h=>hR.sat h)) ?_;rintro e w (⟨v13,at13,hn13,ha13,hv13,hw13,rfl,hS'⟩ | ⟨hn13,⟨older,rfl,ho⟩,at',er,hne,hS'⟩)
   ·clear O;have O:=hS';clear hS';refine .inl ⟨_,rfl,?_⟩;clear I a;refine u1 0 (aa rfl uE) ?_;intro a I;refine fS (cs':=[_,_,_]) I rfl rfl dA eP rfl (O.p 3) rfl rfl ?_;clear O;intro w O;refine rO 5 I ?_;clear I a;intro a I;refine eu I rfl gY rfl (cb _ _ _ r A c bs at13 4611686018427387904 (O.p 1) (by omega) (by omega) (fun w h=>hR.sat h)) ?_;rintro e w (⟨v16,at16,hn16,ha16,hv16,hw16,rfl,hS'⟩ | ⟨hn16,⟨older,rfl,ho⟩,at',er,hne,hS'⟩)
    ·clear O;have O:=hS';clear hS';refine .inl ⟨_,rfl,?_⟩;clear I a;refine u1 0 (aa rfl u0) ?_;intro a I;refine fS (cs':=[_,_,_]) I rfl rfl dA eP rfl (O.p 1) rfl rfl ?_;clear O;intro w O;refine rO 5 I ?_;clear I a;intro a I;refine eu I rfl y8 rfl (hJ _ _ _ r A c bs at16 2 (O.p 1) (by omega) (by omega) (fun w h=>hR.sat h) (by decide) (by decide)) ?_;rintro e w (⟨v19,at19,hn19,ha19,hk19,rfl,hS'⟩ | ⟨hn19,⟨older,rfl,ho⟩,at',er,hne,hS'⟩)
     ·clear O;have O:=hS';clear hS';rw[show (2:Int).toNat=2 from rfl]at hk19;refine .inl ⟨_,rfl,?_⟩;clear I a;refine uO 4 ?_;intro a I;refine wp_loop_ghost (fun (mm:Nat) a w=>∃(i:Nat) (hs:List NL) (Ah:Option Addr) (ch_ at1:Nat),Ag a 45 [(0,.pointer (some ⟨r,0,none⟩)),(1,.pointer (some ⟨b7,0,none⟩)),(2,.pointer (some ⟨bE,0,none⟩)),(19,.int .i64 ((v19:Nat):Int)),(20,.int .i64 ((i:Nat):Int))]∧Sat W w (hZ r A c bs (at1:Int) true 0::iN q r::hP p 0::a6 b7 (.cells #[.int .i64 (v13:Int),.int .i64 (v16:Int),.slice Ah hs.length ch_] 46)::row 68 5 (.slice Ah hs.length ch_) hs.length (hs.flatMap im)::dW 216 3 219 206 hs::a6 bE (.cells #[] 109)::L)∧(i≤v19)∧(hs.length=i)∧(at1≤bs.length)∧(bs=dh v13 v16 v19++(bq 1 (hs.map NL.d)++bs.drop at1))∧(ve aH hs)∧mm=v19-i) v19 ?_ ?_
      ·replace I:=I.kp [0,1,2,19,20] rfl;exact⟨0,[],none,0,at19,I,((O.gX.ba 68 5) |> fun z=>((((((z.p 1).p 1).p 3).p 5).p 5).p 5)),(by omega),(by rfl),(by omega),(by exact vS hn8 (by omega) hn13 hn16 hn19),(by intro h hh;cases hh),by omega⟩
      intro m a w hI;clear O I;obtain⟨i,hs,Ah,ch_,at1,I,O,hi,hhl,hat1,hbe,hgn,rfl⟩:=hI;refine rC 2 I ?_;clear I a;refine aJ 0 0 (aq rfl rfl) ?_ ?_
      ·intro h21;have hSp:=fun d hd e=>et (d:=d) (f:=aH) (by decide) (fun d hd=>hd) hbl (by omega) (by omega) (by omega) hgn (by omega) hbe hd e
       refine uO 11 ?_;intro a I;refine eu I rfl gY rfl (cb _ _ _ r A c bs at1 64 O (by omega) (by omega) (fun w h=>hR.sat h)) ?_;rintro e w (⟨v23,at23,hn23,ha23,hv23,hw23,rfl,hS'⟩ | ⟨hn23,⟨older,rfl,ho⟩,at',er,hne,hS'⟩)
       ·clear O;have O:=hS';clear hS';refine .inl ⟨_,rfl,?_⟩;clear I a;refine uO 4 ?_;intro a I;refine jo [] (lB W (a6 bE (.cells #[] 109)::L)) (by kernel_rfl) ?_;replace O:=O.drew;refine X1 0 [] I rfl (by exact⟨[_,_,_,_,_,_],O⟩) (fun w hT=>have O:=hT.sat;(aG (cs:=[]) (I.ev rfl) HS H6 (by exact O.ao (xs:=[]) rfl))) ?_;clear I a;refine bF 1 [2] rfl (fun w=>(E8 rfl Jp)) ?_;intro a I;refine nG 3 8 (by kernel_rfl) ?_ ?_
        ·refine GK I rfl rfl u4 rfl (fl _ _ _ r A c bs at23 9223372036854775807 O (by omega) (by omega) (fun w h=>hR.sat h)) ?_;rintro e w (⟨f28,at28,A28,c28,hn28,ha28,hl28,rfl,hS'⟩ | ⟨hn28,⟨older,rfl,ho⟩,at',er,hne,hS'⟩)
         rotate_left 1
         ·refine .inr ⟨_,rfl,?_⟩;refine rE 5 I ?_;clear I a;intro a I;refine dj I ?_;clear O;have O:=hS';clear hS';exact⟨at',er,false,_,.inr ⟨rfl,.inl ⟨older,rfl,ho⟩⟩,(((O.p 2).p 2).p 2),.inr ⟨rfl,hne,ma hbl hSp (by omega) hn23 hn28,(by exact⟨[_,_,_,_],rfl⟩)⟩⟩
         clear O;have O:=hS';clear hS';refine .inl ⟨_,rfl,?_⟩;clear I a;intro a I;refine⟨.inr fun _=>(by exact⟨[_,_,_,_,_,_,_],O⟩),?_⟩;refine nG 4 8 (by kernel_rfl) ?_ ?_
         ·refine HR I rfl rfl (show wC Tryz.prog 109 "Unpack"=some 425 from by kernel_rfl) (show enters Tryz.prog 425=true from by kernel_rfl) rfl rfl (mq _ A28 c28 f28 (by omega) (O.p 1).rd) ?_;clear I a;rintro e w (⟨s29,hst29,hff29,hsm29,rfl,hT⟩ | ⟨hno29,rfl,hT⟩)
          ·replace O:Sat _ _ (_::_::_::_::_):=O.ag hT;clear hT;refine⟨_,rfl,?_⟩;intro a I;refine⟨.inr fun _=>(by exact⟨[_,_,_,_,_,_,_,_,_,_,_],O⟩),?_⟩;refine rX [5] I ?_;clear I a;refine bF 6 [] rfl (fun w=>(ai rfl rfl)) ?_;refine bF 7 [] rfl (fun w=>(ai rfl rfl)) ?_;intro a I;refine aE 8 (by kernel_rfl) ?_;refine eN I rfl rfl qg O ?_;clear I a O;intro b5 w O;intro a I;refine⟨.inr fun _=>(by exact⟨[_,_,_,_,_,_,_,_,_,_,_,_],O⟩),?_⟩;refine aE 9 (by kernel_rfl) ?_;refine cH (vs:=[_,_,_,_]) (cs':=[_,_,_,_]) I rfl rfl rfl gK (by simp[Value.oneCell']) O rfl rfl ?_;clear O;intro w O;refine⟨.inr fun _=>(by exact⟨[_,_,_,_,_,_,_,_,_,_,_,_],O⟩),?_⟩;refine rX [10] I ?_;clear I a;intro a I;refine ah (by kernel_rfl) ?_ _;refine rE 5 I ?_;clear I a
           refine u1 6 (dz (aD rfl rfl) (by omega)) ?_;refine u1 0 (aa rfl jG) ?_;refine u1 1 (an rfl Dj (by exact (O.p 9).cell rfl)) ?_;refine u1 0 (lS (cs:=[_,_,_,_]) rfl) ?_;intro a I;refine o1 0 I (ar I rfl uk) ?_;clear I a;intro a I;refine gF (vss:=[[_,_,_,_,_]]) I rfl rfl og C9 rfl rfl rfl (by simp) rfl O ?_;clear I a O;intro A41 w O;intro a I;refine dq I rfl rfl rfl og C9 rfl (O.p 11) (O.rd.src og (by simp[Value.oneCell'])) (by omega) (by omega) ?_;clear I a O;intro A42 c42 w hc42 O;refine u1 0 (aa rfl jG) ?_;intro a I;refine fS (cs':=[_,_,_]) I rfl rfl Dj Hm rfl (O.p 11) rfl rfl ?_;clear O;intro w O;refine rO 4 I ?_;clear I a;refine u1 2 (ad rfl rfl) ?_;intro a I;replace I:=I.kp [0,1,2,19,20] rfl;have el:hs.length+1=(hs++[(⟨(v23:Int),s29⟩:NL)]).length:=by simp
           have hS2:=fQ (O.p 1) el (cs':=(hs++[(⟨(v23:Int),s29⟩:NL)]).flatMap im) (by rw[List.flatMap_append];rfl);rw[el]at hS2;have hS3:=fA (v23:Int) s29 ((((lY ((((hS2.p 7).p 7).p 7).p 7)).p 9).p 1))
           exact⟨v19-(i+1),by omega,i+1,hs++[(⟨(v23:Int),s29⟩:NL)],A42,c42,at28,I,((((((((((hS3.p 9).p 1).p 2).p 3).p 9).p 9).p 8).p 7).drop.p 7).drop.p 7).drop,by omega,by simp;omega,ha28,iI hbe hn23 (by rw[hst29]at hn28;exact hn28),(fun z hz=>by
            rcases List.mem_append.1 hz with hz | hz
            ·
             exact hgn z hz
            ·
             simp only[List.mem_singleton]at hz;subst hz;exact⟨by show (0:Int)≤(v23:Int);omega,by show (v23:Int)≤_;omega,hff29,hsm29⟩),rfl⟩
          ·replace O:Sat _ _ _:=O.ag hT;clear hT;refine⟨_,rfl,?_⟩;intro a I;refine⟨.inr fun _=>(by exact⟨[_,_,_,_,_,_,_],O⟩),?_⟩;refine rX [5] I ?_;clear I a;refine bF 6 [] rfl (fun w=>(ai rfl rfl)) ?_;refine bF 7 [] rfl (fun w=>(ai rfl rfl)) ?_;intro a I;refine aE 8 (by kernel_rfl) ?_;refine eN I rfl rfl qg O ?_;clear I a O;intro b5 w O;intro a I;refine⟨.inr fun _=>(by exact⟨[_,_,_,_,_,_,_,_],O⟩),?_⟩;refine aE 9 (by kernel_rfl) ?_;refine cH (vs:=[_,_,_,_]) (cs':=[_,_,_,_]) I rfl rfl rfl gK (by simp[Value.oneCell']) O rfl rfl ?_;clear O;intro w O;refine⟨.inr fun _=>(by exact⟨[_,_,_,_,_,_,_,_],O⟩),?_⟩;refine rX [10] I ?_;clear I a;intro a I;refine ah (by kernel_rfl) ?_ _;refine rE 5 I ?_;clear I a;refine u1 5 (c5 (aD rfl rfl) (by omega)) ?_;intro a I
           refine eu I rfl lO rfl (cW _ _ _ r A c bs at28 8 (O.p 1) (by omega) (by omega) (fun w h=>hR.sat h)) ?_;rintro e w ⟨⟨older,rfl,ho⟩,at',hS'⟩
           ·refine .inr ⟨_,rfl,?_⟩;refine rE 5 I ?_;clear I a;intro a I;refine dj I ?_;clear O;have O:=hS';clear hS';exact⟨at',8,false,_,.inr ⟨rfl,.inl ⟨older,rfl,ho⟩⟩,(((O.p 4).p 4).p 2),.inr ⟨rfl,by decide,sZ hbl hSp (by omega) hn23 hn28 hno29,(by exact⟨[_,_,_,_,_,_],rfl⟩)⟩⟩
         ·refine eN I rfl rfl qg O ?_;clear I a O;intro b5 w O;intro a I;refine⟨.inr fun _=>(by exact⟨[_,_,_,_,_,_,_,_],O⟩),?_⟩;refine aE 4 (by kernel_rfl) ?_;refine HR I rfl rfl (show wC Tryz.prog 109 "Unpack"=some 425 from by kernel_rfl) (show enters Tryz.prog 425=true from by kernel_rfl) rfl rfl (mq _ A28 c28 f28 (by omega) (O.p 2).rd) ?_;clear I a;rintro e w (⟨s29,hst29,hff29,hsm29,rfl,hT⟩ | ⟨hno29,rfl,hT⟩)
          ·replace O:Sat _ _ (_::_::_::_::_):=O.ag hT;clear hT;refine⟨_,rfl,?_⟩;intro a I;refine⟨.inr fun _=>(by exact⟨[_,_,_,_,_,_,_,_,_,_,_,_],O⟩),?_⟩;refine rX [5] I ?_;clear I a;refine bF 6 [] rfl (fun w=>(ai rfl rfl)) ?_;refine bF 7 [] rfl (fun w=>(ai rfl rfl)) ?_;intro a I;refine aE 9 (by kernel_rfl) ?_;refine cH (vs:=[_,_,_,_]) (cs':=[_,_,_,_]) I rfl rfl rfl gK (by simp[Value.oneCell']) (O.p 4) rfl rfl ?_;clear O;intro w O;refine⟨.inr fun _=>(by exact⟨[_,_,_,_,_,_,_,_,_,_,_,_],O⟩),?_⟩;refine rX [10] I ?_;clear I a;intro a I;refine ah (by kernel_rfl) ?_ _;refine rE 5 I ?_;clear I a;refine u1 6 (dz (aD rfl rfl) (by omega)) ?_;refine u1 0 (aa rfl jG) ?_;refine u1 1 (an rfl Dj (by exact (O.p 9).cell rfl)) ?_;refine u1 0 (lS (cs:=[_,_,_,_]) rfl) ?_;intro a I;refine o1 0 I (ar I rfl uk) ?_;clear I a
           intro a I;refine gF (vss:=[[_,_,_,_,_]]) I rfl rfl og C9 rfl rfl rfl (by simp) rfl O ?_;clear I a O;intro A41 w O;intro a I;refine dq I rfl rfl rfl og C9 rfl (O.p 11) (O.rd.src og (by simp[Value.oneCell'])) (by omega) (by omega) ?_;clear I a O;intro A42 c42 w hc42 O;refine u1 0 (aa rfl jG) ?_;intro a I;refine fS (cs':=[_,_,_]) I rfl rfl Dj Hm rfl (O.p 11) rfl rfl ?_;clear O;intro w O;refine rO 4 I ?_;clear I a;refine u1 2 (ad rfl rfl) ?_;intro a I;replace I:=I.kp [0,1,2,19,20] rfl;have el:hs.length+1=(hs++[(⟨(v23:Int),s29⟩:NL)]).length:=by simp
           have hS2:=fQ (O.p 1) el (cs':=(hs++[(⟨(v23:Int),s29⟩:NL)]).flatMap im) (by rw[List.flatMap_append];rfl);rw[el]at hS2;have hS3:=fA (v23:Int) s29 ((((lY ((((hS2.p 7).p 7).p 7).p 7)).p 9).p 1))
           exact⟨v19-(i+1),by omega,i+1,hs++[(⟨(v23:Int),s29⟩:NL)],A42,c42,at28,I,((((((((((hS3.p 9).p 1).p 2).p 3).p 9).p 9).p 8).p 7).drop.p 7).drop.p 7).drop,by omega,by simp;omega,ha28,iI hbe hn23 (by rw[hst29]at hn28;exact hn28),(fun z hz=>by
            rcases List.mem_append.1 hz with hz | hz
            ·
             exact hgn z hz
            ·
             simp only[List.mem_singleton]at hz;subst hz;exact⟨by show (0:Int)≤(v23:Int);omega,by show (v23:Int)≤_;omega,hff29,hsm29⟩),rfl⟩
          ·replace O:Sat _ _ _:=O.ag hT;clear hT;refine⟨_,rfl,?_⟩;intro a I;refine⟨.inr fun _=>(by exact⟨[_,_,_,_,_,_,_,_],O⟩),?_⟩;refine rX [5] I ?_;clear I a;refine bF 6 [] rfl (fun w=>(ai rfl rfl)) ?_;refine bF 7 [] rfl (fun w=>(ai rfl rfl)) ?_;intro a I;refine aE 9 (by kernel_rfl) ?_;refine cH (vs:=[_,_,_,_]) (cs':=[_,_,_,_]) I rfl rfl rfl gK (by simp[Value.oneCell']) O rfl rfl ?_;clear O;intro w O;refine⟨.inr fun _=>(by exact⟨[_,_,_,_,_,_,_,_],O⟩),?_⟩;refine rX [10] I ?_;clear I a;intro a I;refine ah (by kernel_rfl) ?_ _;refine rE 5 I ?_;clear I a;refine u1 5 (c5 (aD rfl rfl) (by omega)) ?_;intro a I;refine eu I rfl lO rfl (cW _ _ _ r A c bs at28 8 (O.p 1) (by omega) (by omega) (fun w h=>hR.sat h)) ?_;rintro e w ⟨⟨older,rfl,ho⟩,at',hS'⟩
           ·refine .inr ⟨_,rfl,?_⟩;refine rE 5 I ?_;clear I a;intro a I;refine dj I ?_;clear O;have O:=hS';clear hS';exact⟨at',8,false,_,.inr ⟨rfl,.inl ⟨older,rfl,ho⟩⟩,(((O.p 4).p 4).p 2),.inr ⟨rfl,by decide,sZ hbl hSp (by omega) hn23 hn28 hno29,(by exact⟨[_,_,_,_,_,_],rfl⟩)⟩⟩
        ·refine eN I rfl rfl qg O ?_;clear I a O;intro b5 w O;intro a I;refine⟨.inr fun _=>(by exact⟨[_,_,_,_,_,_,_],O⟩),?_⟩;refine aE 3 (by kernel_rfl) ?_;refine GK I rfl rfl u4 rfl (fl _ _ _ r A c bs at23 9223372036854775807 (O.p 1) (by omega) (by omega) (fun w h=>hR.sat h)) ?_;rintro e w (⟨f28,at28,A28,c28,hn28,ha28,hl28,rfl,hS'⟩ | ⟨hn28,⟨older,rfl,ho⟩,at',er,hne,hS'⟩)
         rotate_left 1
         ·refine .inr ⟨_,rfl,?_⟩;refine rE 5 I ?_;clear I a;intro a I;refine dj I ?_;clear O;have O:=hS';clear hS';exact⟨at',er,false,_,.inr ⟨rfl,.inl ⟨older,rfl,ho⟩⟩,(((O.p 3).p 3).p 2),.inr ⟨rfl,hne,ma hbl hSp (by omega) hn23 hn28,(by exact⟨[_,_,_,_,_],rfl⟩)⟩⟩
         clear O;have O:=hS';clear hS';refine .inl ⟨_,rfl,?_⟩;clear I a;intro a I;refine⟨.inr fun _=>(by exact⟨[_,_,_,_,_,_,_,_],O⟩),?_⟩;refine aE 4 (by kernel_rfl) ?_;refine HR I rfl rfl (show wC Tryz.prog 109 "Unpack"=some 425 from by kernel_rfl) (show enters Tryz.prog 425=true from by kernel_rfl) rfl rfl (mq _ A28 c28 f28 (by omega) (O.p 1).rd) ?_;clear I a;rintro e w (⟨s29,hst29,hff29,hsm29,rfl,hT⟩ | ⟨hno29,rfl,hT⟩)
         ·replace O:Sat _ _ (_::_::_::_::_):=O.ag hT;clear hT;refine⟨_,rfl,?_⟩;intro a I;refine⟨.inr fun _=>(by exact⟨[_,_,_,_,_,_,_,_,_,_,_,_],O⟩),?_⟩;refine rX [5] I ?_;clear I a;refine bF 6 [] rfl (fun w=>(ai rfl rfl)) ?_;refine bF 7 [] rfl (fun w=>(ai rfl rfl)) ?_;intro a I;refine aE 9 (by kernel_rfl) ?_;refine cH (vs:=[_,_,_,_]) (cs':=[_,_,_,_]) I rfl rfl rfl gK (by simp[Value.oneCell']) (O.p 6) rfl rfl ?_;clear O;intro w O;refine⟨.inr fun _=>(by exact⟨[_,_,_,_,_,_,_,_,_,_,_,_],O⟩),?_⟩;refine rX [10] I ?_;clear I a;intro a I;refine ah (by kernel_rfl) ?_ _;refine rE 5 I ?_;clear I a;refine u1 6 (dz (aD rfl rfl) (by omega)) ?_;refine u1 0 (aa rfl jG) ?_;refine u1 1 (an rfl Dj (by exact (O.p 9).cell rfl)) ?_;refine u1 0 (lS (cs:=[_,_,_,_]) rfl) ?_;intro a I;refine o1 0 I (ar I rfl uk) ?_;clear I a
          intro a I;refine gF (vss:=[[_,_,_,_,_]]) I rfl rfl og C9 rfl rfl rfl (by simp) rfl O ?_;clear I a O;intro A41 w O;intro a I;refine dq I rfl rfl rfl og C9 rfl (O.p 11) (O.rd.src og (by simp[Value.oneCell'])) (by omega) (by omega) ?_;clear I a O;intro A42 c42 w hc42 O;refine u1 0 (aa rfl jG) ?_;intro a I;refine fS (cs':=[_,_,_]) I rfl rfl Dj Hm rfl (O.p 11) rfl rfl ?_;clear O;intro w O;refine rO 4 I ?_;clear I a;refine u1 2 (ad rfl rfl) ?_;intro a I;replace I:=I.kp [0,1,2,19,20] rfl;have el:hs.length+1=(hs++[(⟨(v23:Int),s29⟩:NL)]).length:=by simp
          have hS2:=fQ (O.p 1) el (cs':=(hs++[(⟨(v23:Int),s29⟩:NL)]).flatMap im) (by rw[List.flatMap_append];rfl);rw[el]at hS2;have hS3:=fA (v23:Int) s29 ((((lY ((((hS2.p 7).p 7).p 7).p 7)).p 9).p 1))
          exact⟨v19-(i+1),by omega,i+1,hs++[(⟨(v23:Int),s29⟩:NL)],A42,c42,at28,I,((((((((((hS3.p 9).p 1).p 2).p 3).p 9).p 9).p 8).p 7).drop.p 7).drop.p 7).drop,by omega,by simp;omega,ha28,iI hbe hn23 (by rw[hst29]at hn28;exact hn28),(fun z hz=>by
           rcases List.mem_append.1 hz with hz | hz
           ·
            exact hgn z hz
           ·
            simp only[List.mem_singleton]at hz;subst hz;exact⟨by show (0:Int)≤(v23:Int);omega,by show (v23:Int)≤_;omega,hff29,hsm29⟩),rfl⟩
         ·replace O:Sat _ _ _:=O.ag hT;clear hT;refine⟨_,rfl,?_⟩;intro a I;refine⟨.inr fun _=>(by exact⟨[_,_,_,_,_,_,_,_],O⟩),?_⟩;refine rX [5] I ?_;clear I a;refine bF 6 [] rfl (fun w=>(ai rfl rfl)) ?_;refine bF 7 [] rfl (fun w=>(ai rfl rfl)) ?_;intro a I;refine aE 9 (by kernel_rfl) ?_;refine cH (vs:=[_,_,_,_]) (cs':=[_,_,_,_]) I rfl rfl rfl gK (by simp[Value.oneCell']) (O.p 2) rfl rfl ?_;clear O;intro w O;refine⟨.inr fun _=>(by exact⟨[_,_,_,_,_,_,_,_],O⟩),?_⟩;refine rX [10] I ?_;clear I a;intro a I;refine ah (by kernel_rfl) ?_ _;refine rE 5 I ?_;clear I a;refine u1 5 (c5 (aD rfl rfl) (by omega)) ?_;intro a I;refine eu I rfl lO rfl (cW _ _ _ r A c bs at28 8 (O.p 1) (by omega) (by omega) (fun w h=>hR.sat h)) ?_;rintro e w ⟨⟨older,rfl,ho⟩,at',hS'⟩
          ·refine .inr ⟨_,rfl,?_⟩;refine rE 5 I ?_;clear I a;intro a I;refine dj I ?_;clear O;have O:=hS';clear hS';exact⟨at',8,false,_,.inr ⟨rfl,.inl ⟨older,rfl,ho⟩⟩,(((O.p 4).p 4).p 2),.inr ⟨rfl,by decide,sZ hbl hSp (by omega) hn23 hn28 hno29,(by exact⟨[_,_,_,_,_,_],rfl⟩)⟩⟩
       ·refine .inr ⟨_,rfl,?_⟩;refine rE 5 I ?_;clear I a;intro a I;refine dj I ?_;clear O;have O:=hS';clear hS';exact⟨at',er,false,_,.inr ⟨rfl,.inl ⟨older,rfl,ho⟩⟩,(((O.p 2).p 2).p 2),.inr ⟨rfl,hne,tn hSp (by omega) hn23,(by exact⟨[_,_,_,_],rfl⟩)⟩⟩
      ·intro h21;refine uO 8 ?_;intro a I;refine jm (e:=.ret) ?_;refine mR I rfl  ?_;obtain rfl:i=v19:=by omega
       subst hhl;exact⟨(at1:Int),0,true,_,.inl ⟨rfl,rfl⟩,O,.inl ⟨rfl,rfl,v13,v16,hs,Ah,ch_,at1,rfl,hat1,hbe,hv13,hv16,hgn,by omega,rfl⟩⟩
     ·refine .inr ⟨_,rfl,?_⟩;refine rE 1 I ?_;clear I a;intro a I;refine dj I ?_;clear O;have O:=hS';clear hS';exact⟨at',er,false,_,.inr ⟨rfl,.inl ⟨older,rfl,ho⟩⟩,(((O.p 3).p 3).p 2),.inr ⟨rfl,hne,JO hn8 hn13 hn16 hn19,(by exact⟨[_,_],rfl⟩)⟩⟩
    ·refine .inr ⟨_,rfl,?_⟩;refine rE 1 I ?_;clear I a;intro a I;refine dj I ?_;clear O;have O:=hS';clear hS';exact⟨at',er,false,_,.inr ⟨rfl,.inl ⟨older,rfl,ho⟩⟩,(((O.p 3).p 3).p 2),.inr ⟨rfl,hne,Jv hn8 hn13 hn16,(by exact⟨[_,_],rfl⟩)⟩⟩
   ·refine .inr ⟨_,rfl,?_⟩;refine rE 1 I ?_;clear I a;intro a I;refine dj I ?_;clear O;have O:=hS';clear hS';exact⟨at',er,false,_,.inr ⟨rfl,.inl ⟨older,rfl,ho⟩⟩,(((O.p 2).p 2).p 2),.inr ⟨rfl,hne,Il hn8 hn13,(by exact⟨[_,_],rfl⟩)⟩⟩
 ·refine .inr ⟨_,rfl,?_⟩;refine rE 2 I ?_;clear I a;intro a I;refine dj I ?_;clear O;have O:=hS';clear hS';exact⟨at',er,false,_,.inr ⟨rfl,.inl ⟨older,rfl,ho⟩⟩,(((O.p 2).p 2).p 2),.inr ⟨rfl,hne,Km (by rw[List.drop_zero]at hn8;exact hn8),(by exact⟨[_,_],rfl⟩)⟩⟩
def GH (bs:List UInt8)(b7 bE:Nat)(L:List As)(at' err:Int)(ok:Bool)(M:List As):Prop:=(ok=true∧err=0∧∃(s n:Nat) (hs:List NL) (Ah:Option Addr) (ch_ a:Nat),at'=(a:Int)∧a≤bs.length∧bs=dh s n hs.length++(bq 2 (hs.map NL.d)++bs.drop a)∧(s:Int)≤16∧(n:Int)≤4611686018427387904∧ve bD hs∧hs.length * 2≤bs.length∧M=a6 b7 (.cells #[.int .i64 (s:Int),.int .i64 (n:Int),.slice Ah hs.length ch_] 50)::row 74 5 (.slice Ah hs.length ch_) hs.length (hs.flatMap im)::dW 216 3 219 206 hs::a6 bE (.cells #[] 94)::L)∨(ok=false∧err≠0∧iv 2 bD bs∧∃N:List As,M=N++L)
theorem zB (W w:World)(L:List As)(r q p b7 bE:Nat)(A:Option Addr)(c:Nat)(bs:List UInt8)(O:Sat W w (hZ r A c bs 0 true 0::iN q r::hP p 0::a6 b7 (.cells #[.int .i64 0,.int .i64 0,.slice none 0 0] 50)::a6 bE (.cells #[] 94)::L))(hb:bs.length≤16777216)(hR:Rd W 1 (.slice A bs.length c) bs.length (bs.map aj)):Calls Tryz.prog 104 #[.pointer (some ⟨r,0,none⟩),.pointer (some ⟨b7,0,none⟩),.pointer (some ⟨bE,0,none⟩)] w fun e w'=>∃(at' err:Int) (ok:Bool) (M:List As),BN r ok e∧Sat W w' (hZ r A c bs at' true err::iN q r::hP p 0::M)∧GH bs b7 bE L at' err ok M:=by
 refine bS Tryz.func104 [0,1,2] ?_;have hbl:bs.length≤16777216:=hb;intro a I;change Sat W w (hZ r A c bs ((0:Nat):Int) true 0::_) at O;refine rC 4 I ?_;clear I a;intro a I;refine eu I rfl gY rfl (cb _ _ _ r A c bs 0 3 O (by omega) (by omega) (fun w h=>hR.sat h)) ?_;rintro e w (⟨v8,at8,hn8,ha8,hv8,hw8,rfl,hS'⟩ | ⟨hn8,⟨older,rfl,ho⟩,at',er,hne,hS'⟩)
 ·clear O;have O:=hS';clear hS';refine .inl ⟨_,rfl,?_⟩;clear I a;intro a I
  try rw[List.drop_zero]at hn8
  refine J9 0 0 I (aD (I.ev rfl) (I.ev rfl)) ?_ ?_
  ·clear I a;intro h9;refine uO 5 ?_;intro a I;refine eu I rfl lO rfl (cW _ _ _ r A c bs at8 8 O (by omega) (by omega) (fun w h=>hR.sat h)) ?_;rintro e w ⟨⟨older,rfl,ho⟩,at',hS'⟩
   ·refine .inr ⟨_,rfl,?_⟩;refine rE 1 I ?_;clear I a;intro a I;refine dj I ?_;clear O;have O:=hS';clear hS';exact⟨at',8,false,_,.inr ⟨rfl,.inl ⟨older,rfl,ho⟩⟩,O,.inr ⟨rfl,by decide,Kp hn8 (by omega),(by exact⟨[_,_],rfl⟩)⟩⟩
  ·clear I a;intro h9;refine uO 8 ?_;intro a I;refine eu I rfl gY rfl (cb _ _ _ r A c bs at8 16 O (by omega) (by omega) (fun w h=>hR.sat h)) ?_;rintro e w (⟨v13,at13,hn13,ha13,hv13,hw13,rfl,hS'⟩ | ⟨hn13,⟨older,rfl,ho⟩,at',er,hne,hS'⟩)
   ·clear O;have O:=hS';clear hS';refine .inl ⟨_,rfl,?_⟩;clear I a;refine u1 0 (aa rfl tH) ?_;intro a I;refine fS (cs':=[_,_,_]) I rfl rfl dA eP rfl (O.p 3) rfl rfl ?_;clear O;intro w O;refine rO 5 I ?_;clear I a;intro a I;refine eu I rfl gY rfl (cb _ _ _ r A c bs at13 4611686018427387904 (O.p 1) (by omega) (by omega) (fun w h=>hR.sat h)) ?_;rintro e w (⟨v16,at16,hn16,ha16,hv16,hw16,rfl,hS'⟩ | ⟨hn16,⟨older,rfl,ho⟩,at',er,hne,hS'⟩)
    ·clear O;have O:=hS';clear hS';refine .inl ⟨_,rfl,?_⟩;clear I a;refine u1 0 (aa rfl tW) ?_;intro a I;refine fS (cs':=[_,_,_]) I rfl rfl dA eP rfl (O.p 1) rfl rfl ?_;clear O;intro w O;refine rO 5 I ?_;clear I a;intro a I;refine eu I rfl y8 rfl (hJ _ _ _ r A c bs at16 2 (O.p 1) (by omega) (by omega) (fun w h=>hR.sat h) (by decide) (by decide)) ?_;rintro e w (⟨v19,at19,hn19,ha19,hk19,rfl,hS'⟩ | ⟨hn19,⟨older,rfl,ho⟩,at',er,hne,hS'⟩)
     ·clear O;have O:=hS';clear hS';rw[show (2:Int).toNat=2 from rfl]at hk19;refine .inl ⟨_,rfl,?_⟩;clear I a;refine uO 4 ?_;intro a I;refine wp_loop_ghost (fun (mm:Nat) a w=>∃(i:Nat) (hs:List NL) (Ah:Option Addr) (ch_ at1:Nat),Ag a 45 [(0,.pointer (some ⟨r,0,none⟩)),(1,.pointer (some ⟨b7,0,none⟩)),(2,.pointer (some ⟨bE,0,none⟩)),(19,.int .i64 ((v19:Nat):Int)),(20,.int .i64 ((i:Nat):Int))]∧Sat W w (hZ r A c bs (at1:Int) true 0::iN q r::hP p 0::a6 b7 (.cells #[.int .i64 (v13:Int),.int .i64 (v16:Int),.slice Ah hs.length ch_] 50)::row 74 5 (.slice Ah hs.length ch_) hs.length (hs.flatMap im)::dW 216 3 219 206 hs::a6 bE (.cells #[] 94)::L)∧(i≤v19)∧(hs.length=i)∧(at1≤bs.length)∧(bs=dh v13 v16 v19++(bq 2 (hs.map NL.d)++bs.drop at1))∧(ve bD hs)∧mm=v19-i) v19 ?_ ?_
      ·replace I:=I.kp [0,1,2,19,20] rfl;exact⟨0,[],none,0,at19,I,((O.gX.ba 74 5) |> fun z=>((((((z.p 1).p 1).p 3).p 5).p 5).p 5)),(by omega),(by rfl),(by omega),(by exact vS hn8 (by omega) hn13 hn16 hn19),(by intro h hh;cases hh),by omega⟩
      intro m a w hI;clear O I;obtain⟨i,hs,Ah,ch_,at1,I,O,hi,hhl,hat1,hbe,hgn,rfl⟩:=hI;refine rC 2 I ?_;clear I a;refine aJ 0 0 (aq rfl rfl) ?_ ?_
      ·intro h21;have hSp:=fun d hd e=>et (d:=d) (f:=bD) (by decide) (fun d hd=>cT hd) hbl (by omega) (by omega) (by omega) hgn (by omega) hbe hd e
       refine uO 11 ?_;intro a I;refine eu I rfl gY rfl (cb _ _ _ r A c bs at1 64 O (by omega) (by omega) (fun w h=>hR.sat h)) ?_;rintro e w (⟨v23,at23,hn23,ha23,hv23,hw23,rfl,hS'⟩ | ⟨hn23,⟨older,rfl,ho⟩,at',er,hne,hS'⟩)
       ·clear O;have O:=hS';clear hS';refine .inl ⟨_,rfl,?_⟩;clear I a;refine uO 4 ?_;intro a I;refine jo [] (lB W (a6 bE (.cells #[] 94)::L)) (by kernel_rfl) ?_;replace O:=O.drew;refine X1 0 [] I rfl (by exact⟨[_,_,_,_,_,_],O⟩) (fun w hT=>have O:=hT.sat;(aG (cs:=[]) (I.ev rfl) Kf Kd (by exact O.ao (xs:=[]) rfl))) ?_;clear I a;refine bF 1 [2] rfl (fun w=>(E8 rfl J5)) ?_;intro a I;refine nG 3 8 (by kernel_rfl) ?_ ?_
        ·refine GK I rfl rfl u4 rfl (fl _ _ _ r A c bs at23 9223372036854775807 O (by omega) (by omega) (fun w h=>hR.sat h)) ?_;rintro e w (⟨f28,at28,A28,c28,hn28,ha28,hl28,rfl,hS'⟩ | ⟨hn28,⟨older,rfl,ho⟩,at',er,hne,hS'⟩)
         rotate_left 1
         ·refine .inr ⟨_,rfl,?_⟩;refine rE 5 I ?_;clear I a;intro a I;refine dj I ?_;clear O;have O:=hS';clear hS';exact⟨at',er,false,_,.inr ⟨rfl,.inl ⟨older,rfl,ho⟩⟩,(((O.p 2).p 2).p 2),.inr ⟨rfl,hne,ma hbl hSp (by omega) hn23 hn28,(by exact⟨[_,_,_,_],rfl⟩)⟩⟩
         clear O;have O:=hS';clear hS';refine .inl ⟨_,rfl,?_⟩;clear I a;intro a I;refine⟨.inr fun _=>(by exact⟨[_,_,_,_,_,_,_],O⟩),?_⟩;refine nG 4 8 (by kernel_rfl) ?_ ?_
         ·refine HR I rfl rfl (show wC Tryz.prog 94 "Unpack"=some 333 from by kernel_rfl) (show enters Tryz.prog 333=true from by kernel_rfl) rfl rfl (mf _ A28 c28 f28 (by omega) (O.p 1).rd) ?_;clear I a;rintro e w (⟨s29,hst29,hff29,hsm29,rfl,hT⟩ | ⟨hno29,rfl,hT⟩)
          ·replace O:Sat _ _ (_::_::_::_::_):=O.ag hT;clear hT;refine⟨_,rfl,?_⟩;intro a I;refine⟨.inr fun _=>(by exact⟨[_,_,_,_,_,_,_,_,_,_,_],O⟩),?_⟩;refine rX [5] I ?_;clear I a;refine bF 6 [] rfl (fun w=>(ai rfl rfl)) ?_;refine bF 7 [] rfl (fun w=>(ai rfl rfl)) ?_;intro a I;refine aE 8 (by kernel_rfl) ?_;refine eN I rfl rfl sc O ?_;clear I a O;intro b5 w O;intro a I;refine⟨.inr fun _=>(by exact⟨[_,_,_,_,_,_,_,_,_,_,_,_],O⟩),?_⟩;refine aE 9 (by kernel_rfl) ?_;refine cH (vs:=[_,_,_,_]) (cs':=[_,_,_,_]) I rfl rfl rfl ir (by simp[Value.oneCell']) O rfl rfl ?_;clear O;intro w O;refine⟨.inr fun _=>(by exact⟨[_,_,_,_,_,_,_,_,_,_,_,_],O⟩),?_⟩;refine rX [10] I ?_;clear I a;intro a I;refine ah (by kernel_rfl) ?_ _;refine rE 5 I ?_;clear I a
           refine u1 6 (dz (aD rfl rfl) (by omega)) ?_;refine u1 0 (aa rfl jB) ?_;refine u1 1 (an rfl Dh (by exact (O.p 9).cell rfl)) ?_;refine u1 0 (lS (cs:=[_,_,_,_]) rfl) ?_;intro a I;refine o1 0 I (ar I rfl ue) ?_;clear I a;intro a I;refine gF (vss:=[[_,_,_,_,_]]) I rfl rfl o3 Dx rfl rfl rfl (by simp) rfl O ?_;clear I a O;intro A41 w O;intro a I;refine dq I rfl rfl rfl o3 Dx rfl (O.p 11) (O.rd.src o3 (by simp[Value.oneCell'])) (by omega) (by omega) ?_;clear I a O;intro A42 c42 w hc42 O;refine u1 0 (aa rfl jB) ?_;intro a I;refine fS (cs':=[_,_,_]) I rfl rfl Dh Hk rfl (O.p 11) rfl rfl ?_;clear O;intro w O;refine rO 4 I ?_;clear I a;refine u1 2 (ad rfl rfl) ?_;intro a I;replace I:=I.kp [0,1,2,19,20] rfl;have el:hs.length+1=(hs++[(⟨(v23:Int),s29⟩:NL)]).length:=by simp
           have hS2:=fQ (O.p 1) el (cs':=(hs++[(⟨(v23:Int),s29⟩:NL)]).flatMap im) (by rw[List.flatMap_append];rfl);rw[el]at hS2;have hS3:=fA (v23:Int) s29 ((((lY ((((hS2.p 7).p 7).p 7).p 7)).p 9).p 1))
           exact⟨v19-(i+1),by omega,i+1,hs++[(⟨(v23:Int),s29⟩:NL)],A42,c42,at28,I,((((((((((hS3.p 9).p 1).p 2).p 3).p 9).p 9).p 8).p 7).drop.p 7).drop.p 7).drop,by omega,by simp;omega,ha28,iI hbe hn23 (by rw[hst29]at hn28;exact hn28),(fun z hz=>by
            rcases List.mem_append.1 hz with hz | hz
            ·
             exact hgn z hz
            ·
             simp only[List.mem_singleton]at hz;subst hz;exact⟨by show (0:Int)≤(v23:Int);omega,by show (v23:Int)≤_;omega,hff29,hsm29⟩),rfl⟩
          ·replace O:Sat _ _ _:=O.ag hT;clear hT;refine⟨_,rfl,?_⟩;intro a I;refine⟨.inr fun _=>(by exact⟨[_,_,_,_,_,_,_],O⟩),?_⟩;refine rX [5] I ?_;clear I a;refine bF 6 [] rfl (fun w=>(ai rfl rfl)) ?_;refine bF 7 [] rfl (fun w=>(ai rfl rfl)) ?_;intro a I;refine aE 8 (by kernel_rfl) ?_;refine eN I rfl rfl sc O ?_;clear I a O;intro b5 w O;intro a I;refine⟨.inr fun _=>(by exact⟨[_,_,_,_,_,_,_,_],O⟩),?_⟩;refine aE 9 (by kernel_rfl) ?_;refine cH (vs:=[_,_,_,_]) (cs':=[_,_,_,_]) I rfl rfl rfl ir (by simp[Value.oneCell']) O rfl rfl ?_;clear O;intro w O;refine⟨.inr fun _=>(by exact⟨[_,_,_,_,_,_,_,_],O⟩),?_⟩;refine rX [10] I ?_;clear I a;intro a I;refine ah (by kernel_rfl) ?_ _;refine rE 5 I ?_;clear I a;refine u1 5 (c5 (aD rfl rfl) (by omega)) ?_;intro a I
           refine eu I rfl lO rfl (cW _ _ _ r A c bs at28 8 (O.p 1) (by omega) (by omega) (fun w h=>hR.sat h)) ?_;rintro e w ⟨⟨older,rfl,ho⟩,at',hS'⟩
           ·refine .inr ⟨_,rfl,?_⟩;refine rE 5 I ?_;clear I a;intro a I;refine dj I ?_;clear O;have O:=hS';clear hS';exact⟨at',8,false,_,.inr ⟨rfl,.inl ⟨older,rfl,ho⟩⟩,(((O.p 4).p 4).p 2),.inr ⟨rfl,by decide,sZ hbl hSp (by omega) hn23 hn28 hno29,(by exact⟨[_,_,_,_,_,_],rfl⟩)⟩⟩
         ·refine eN I rfl rfl sc O ?_;clear I a O;intro b5 w O;intro a I;refine⟨.inr fun _=>(by exact⟨[_,_,_,_,_,_,_,_],O⟩),?_⟩;refine aE 4 (by kernel_rfl) ?_;refine HR I rfl rfl (show wC Tryz.prog 94 "Unpack"=some 333 from by kernel_rfl) (show enters Tryz.prog 333=true from by kernel_rfl) rfl rfl (mf _ A28 c28 f28 (by omega) (O.p 2).rd) ?_;clear I a;rintro e w (⟨s29,hst29,hff29,hsm29,rfl,hT⟩ | ⟨hno29,rfl,hT⟩)
          ·replace O:Sat _ _ (_::_::_::_::_):=O.ag hT;clear hT;refine⟨_,rfl,?_⟩;intro a I;refine⟨.inr fun _=>(by exact⟨[_,_,_,_,_,_,_,_,_,_,_,_],O⟩),?_⟩;refine rX [5] I ?_;clear I a;refine bF 6 [] rfl (fun w=>(ai rfl rfl)) ?_;refine bF 7 [] rfl (fun w=>(ai rfl rfl)) ?_;intro a I;refine aE 9 (by kernel_rfl) ?_;refine cH (vs:=[_,_,_,_]) (cs':=[_,_,_,_]) I rfl rfl rfl ir (by simp[Value.oneCell']) (O.p 4) rfl rfl ?_;clear O;intro w O;refine⟨.inr fun _=>(by exact⟨[_,_,_,_,_,_,_,_,_,_,_,_],O⟩),?_⟩;refine rX [10] I ?_;clear I a;intro a I;refine ah (by kernel_rfl) ?_ _;refine rE 5 I ?_;clear I a;refine u1 6 (dz (aD rfl rfl) (by omega)) ?_;refine u1 0 (aa rfl jB) ?_;refine u1 1 (an rfl Dh (by exact (O.p 9).cell rfl)) ?_;refine u1 0 (lS (cs:=[_,_,_,_]) rfl) ?_;intro a I;refine o1 0 I (ar I rfl ue) ?_;clear I a
           intro a I;refine gF (vss:=[[_,_,_,_,_]]) I rfl rfl o3 Dx rfl rfl rfl (by simp) rfl O ?_;clear I a O;intro A41 w O;intro a I;refine dq I rfl rfl rfl o3 Dx rfl (O.p 11) (O.rd.src o3 (by simp[Value.oneCell'])) (by omega) (by omega) ?_;clear I a O;intro A42 c42 w hc42 O;refine u1 0 (aa rfl jB) ?_;intro a I;refine fS (cs':=[_,_,_]) I rfl rfl Dh Hk rfl (O.p 11) rfl rfl ?_;clear O;intro w O;refine rO 4 I ?_;clear I a;refine u1 2 (ad rfl rfl) ?_;intro a I;replace I:=I.kp [0,1,2,19,20] rfl;have el:hs.length+1=(hs++[(⟨(v23:Int),s29⟩:NL)]).length:=by simp
           have hS2:=fQ (O.p 1) el (cs':=(hs++[(⟨(v23:Int),s29⟩:NL)]).flatMap im) (by rw[List.flatMap_append];rfl);rw[el]at hS2;have hS3:=fA (v23:Int) s29 ((((lY ((((hS2.p 7).p 7).p 7).p 7)).p 9).p 1))
           exact⟨v19-(i+1),by omega,i+1,hs++[(⟨(v23:Int),s29⟩:NL)],A42,c42,at28,I,((((((((((hS3.p 9).p 1).p 2).p 3).p 9).p 9).p 8).p 7).drop.p 7).drop.p 7).drop,by omega,by simp;omega,ha28,iI hbe hn23 (by rw[hst29]at hn28;exact hn28),(fun z hz=>by
            rcases List.mem_append.1 hz with hz | hz
            ·
             exact hgn z hz
            ·
             simp only[List.mem_singleton]at hz;subst hz;exact⟨by show (0:Int)≤(v23:Int);omega,by show (v23:Int)≤_;omega,hff29,hsm29⟩),rfl⟩
          ·replace O:Sat _ _ _:=O.ag hT;clear hT;refine⟨_,rfl,?_⟩;intro a I;refine⟨.inr fun _=>(by exact⟨[_,_,_,_,_,_,_,_],O⟩),?_⟩;refine rX [5] I ?_;clear I a;refine bF 6 [] rfl (fun w=>(ai rfl rfl)) ?_;refine bF 7 [] rfl (fun w=>(ai rfl rfl)) ?_;intro a I;refine aE 9 (by kernel_rfl) ?_;refine cH (vs:=[_,_,_,_]) (cs':=[_,_,_,_]) I rfl rfl rfl ir (by simp[Value.oneCell']) O rfl rfl ?_;clear O;intro w O;refine⟨.inr fun _=>(by exact⟨[_,_,_,_,_,_,_,_],O⟩),?_⟩;refine rX [10] I ?_;clear I a;intro a I;refine ah (by kernel_rfl) ?_ _;refine rE 5 I ?_;clear I a;refine u1 5 (c5 (aD rfl rfl) (by omega)) ?_;intro a I;refine eu I rfl lO rfl (cW _ _ _ r A c bs at28 8 (O.p 1) (by omega) (by omega) (fun w h=>hR.sat h)) ?_;rintro e w ⟨⟨older,rfl,ho⟩,at',hS'⟩
           ·refine .inr ⟨_,rfl,?_⟩;refine rE 5 I ?_;clear I a;intro a I;refine dj I ?_;clear O;have O:=hS';clear hS';exact⟨at',8,false,_,.inr ⟨rfl,.inl ⟨older,rfl,ho⟩⟩,(((O.p 4).p 4).p 2),.inr ⟨rfl,by decide,sZ hbl hSp (by omega) hn23 hn28 hno29,(by exact⟨[_,_,_,_,_,_],rfl⟩)⟩⟩
        ·refine eN I rfl rfl sc O ?_;clear I a O;intro b5 w O;intro a I;refine⟨.inr fun _=>(by exact⟨[_,_,_,_,_,_,_],O⟩),?_⟩;refine aE 3 (by kernel_rfl) ?_;refine GK I rfl rfl u4 rfl (fl _ _ _ r A c bs at23 9223372036854775807 (O.p 1) (by omega) (by omega) (fun w h=>hR.sat h)) ?_;rintro e w (⟨f28,at28,A28,c28,hn28,ha28,hl28,rfl,hS'⟩ | ⟨hn28,⟨older,rfl,ho⟩,at',er,hne,hS'⟩)
         rotate_left 1
         ·refine .inr ⟨_,rfl,?_⟩;refine rE 5 I ?_;clear I a;intro a I;refine dj I ?_;clear O;have O:=hS';clear hS';exact⟨at',er,false,_,.inr ⟨rfl,.inl ⟨older,rfl,ho⟩⟩,(((O.p 3).p 3).p 2),.inr ⟨rfl,hne,ma hbl hSp (by omega) hn23 hn28,(by exact⟨[_,_,_,_,_],rfl⟩)⟩⟩
         clear O;have O:=hS';clear hS';refine .inl ⟨_,rfl,?_⟩;clear I a;intro a I;refine⟨.inr fun _=>(by exact⟨[_,_,_,_,_,_,_,_],O⟩),?_⟩;refine aE 4 (by kernel_rfl) ?_;refine HR I rfl rfl (show wC Tryz.prog 94 "Unpack"=some 333 from by kernel_rfl) (show enters Tryz.prog 333=true from by kernel_rfl) rfl rfl (mf _ A28 c28 f28 (by omega) (O.p 1).rd) ?_;clear I a;rintro e w (⟨s29,hst29,hff29,hsm29,rfl,hT⟩ | ⟨hno29,rfl,hT⟩)
         ·replace O:Sat _ _ (_::_::_::_::_):=O.ag hT;clear hT;refine⟨_,rfl,?_⟩;intro a I;refine⟨.inr fun _=>(by exact⟨[_,_,_,_,_,_,_,_,_,_,_,_],O⟩),?_⟩;refine rX [5] I ?_;clear I a;refine bF 6 [] rfl (fun w=>(ai rfl rfl)) ?_;refine bF 7 [] rfl (fun w=>(ai rfl rfl)) ?_;intro a I;refine aE 9 (by kernel_rfl) ?_;refine cH (vs:=[_,_,_,_]) (cs':=[_,_,_,_]) I rfl rfl rfl ir (by simp[Value.oneCell']) (O.p 6) rfl rfl ?_;clear O;intro w O;refine⟨.inr fun _=>(by exact⟨[_,_,_,_,_,_,_,_,_,_,_,_],O⟩),?_⟩;refine rX [10] I ?_;clear I a;intro a I;refine ah (by kernel_rfl) ?_ _;refine rE 5 I ?_;clear I a;refine u1 6 (dz (aD rfl rfl) (by omega)) ?_;refine u1 0 (aa rfl jB) ?_;refine u1 1 (an rfl Dh (by exact (O.p 9).cell rfl)) ?_;refine u1 0 (lS (cs:=[_,_,_,_]) rfl) ?_;intro a I;refine o1 0 I (ar I rfl ue) ?_;clear I a
          intro a I;refine gF (vss:=[[_,_,_,_,_]]) I rfl rfl o3 Dx rfl rfl rfl (by simp) rfl O ?_;clear I a O;intro A41 w O;intro a I;refine dq I rfl rfl rfl o3 Dx rfl (O.p 11) (O.rd.src o3 (by simp[Value.oneCell'])) (by omega) (by omega) ?_;clear I a O;intro A42 c42 w hc42 O;refine u1 0 (aa rfl jB) ?_;intro a I;refine fS (cs':=[_,_,_]) I rfl rfl Dh Hk rfl (O.p 11) rfl rfl ?_;clear O;intro w O;refine rO 4 I ?_;clear I a;refine u1 2 (ad rfl rfl) ?_;intro a I;replace I:=I.kp [0,1,2,19,20] rfl;have el:hs.length+1=(hs++[(⟨(v23:Int),s29⟩:NL)]).length:=by simp
          have hS2:=fQ (O.p 1) el (cs':=(hs++[(⟨(v23:Int),s29⟩:NL)]).flatMap im) (by rw[List.flatMap_append];rfl);rw[el]at hS2;have hS3:=fA (v23:Int) s29 ((((lY ((((hS2.p 7).p 7).p 7).p 7)).p 9).p 1))
          exact⟨v19-(i+1),by omega,i+1,hs++[(⟨(v23:Int),s29⟩:NL)],A42,c42,at28,I,((((((((((hS3.p 9).p 1).p 2).p 3).p 9).p 9).p 8).p 7).drop.p 7).drop.p 7).drop,by omega,by simp;omega,ha28,iI hbe hn23 (by rw[hst29]at hn28;exact hn28),(fun z hz=>by
           rcases List.mem_append.1 hz with hz | hz
           ·
            exact hgn z hz
           ·
            simp only[List.mem_singleton]at hz;subst hz;exact⟨by show (0:Int)≤(v23:Int);omega,by show (v23:Int)≤_;omega,hff29,hsm29⟩),rfl⟩
         ·replace O:Sat _ _ _:=O.ag hT;clear hT;refine⟨_,rfl,?_⟩;intro a I;refine⟨.inr fun _=>(by exact⟨[_,_,_,_,_,_,_,_],O⟩),?_⟩;refine rX [5] I ?_;clear I a;refine bF 6 [] rfl (fun w=>(ai rfl rfl)) ?_;refine bF 7 [] rfl (fun w=>(ai rfl rfl)) ?_;intro a I;refine aE 9 (by kernel_rfl) ?_;refine cH (vs:=[_,_,_,_]) (cs':=[_,_,_,_]) I rfl rfl rfl ir (by simp[Value.oneCell']) (O.p 2) rfl rfl ?_;clear O;intro w O;refine⟨.inr fun _=>(by exact⟨[_,_,_,_,_,_,_,_],O⟩),?_⟩;refine rX [10] I ?_;clear I a;intro a I;refine ah (by kernel_rfl) ?_ _;refine rE 5 I ?_;clear I a;refine u1 5 (c5 (aD rfl rfl) (by omega)) ?_;intro a I;refine eu I rfl lO rfl (cW _ _ _ r A c bs at28 8 (O.p 1) (by omega) (by omega) (fun w h=>hR.sat h)) ?_;rintro e w ⟨⟨older,rfl,ho⟩,at',hS'⟩
          ·refine .inr ⟨_,rfl,?_⟩;refine rE 5 I ?_;clear I a;intro a I;refine dj I ?_;clear O;have O:=hS';clear hS';exact⟨at',8,false,_,.inr ⟨rfl,.inl ⟨older,rfl,ho⟩⟩,(((O.p 4).p 4).p 2),.inr ⟨rfl,by decide,sZ hbl hSp (by omega) hn23 hn28 hno29,(by exact⟨[_,_,_,_,_,_],rfl⟩)⟩⟩
       ·refine .inr ⟨_,rfl,?_⟩;refine rE 5 I ?_;clear I a;intro a I;refine dj I ?_;clear O;have O:=hS';clear hS';exact⟨at',er,false,_,.inr ⟨rfl,.inl ⟨older,rfl,ho⟩⟩,(((O.p 2).p 2).p 2),.inr ⟨rfl,hne,tn hSp (by omega) hn23,(by exact⟨[_,_,_,_],rfl⟩)⟩⟩
      ·intro h21;refine uO 8 ?_;intro a I;refine jm (e:=.ret) ?_;refine mR I rfl  ?_;obtain rfl:i=v19:=by omega
       subst hhl;exact⟨(at1:Int),0,true,_,.inl ⟨rfl,rfl⟩,O,.inl ⟨rfl,rfl,v13,v16,hs,Ah,ch_,at1,rfl,hat1,hbe,hv13,hv16,hgn,by omega,rfl⟩⟩
     ·refine .inr ⟨_,rfl,?_⟩;refine rE 1 I ?_;clear I a;intro a I;refine dj I ?_;clear O;have O:=hS';clear hS';exact⟨at',er,false,_,.inr ⟨rfl,.inl ⟨older,rfl,ho⟩⟩,(((O.p 3).p 3).p 2),.inr ⟨rfl,hne,JO hn8 hn13 hn16 hn19,(by exact⟨[_,_],rfl⟩)⟩⟩
    ·refine .inr ⟨_,rfl,?_⟩;refine rE 1 I ?_;clear I a;intro a I;refine dj I ?_;clear O;have O:=hS';clear hS';exact⟨at',er,false,_,.inr ⟨rfl,.inl ⟨older,rfl,ho⟩⟩,(((O.p 3).p 3).p 2),.inr ⟨rfl,hne,Jv hn8 hn13 hn16,(by exact⟨[_,_],rfl⟩)⟩⟩
   ·refine .inr ⟨_,rfl,?_⟩;refine rE 1 I ?_;clear I a;intro a I;refine dj I ?_;clear O;have O:=hS';clear hS';exact⟨at',er,false,_,.inr ⟨rfl,.inl ⟨older,rfl,ho⟩⟩,(((O.p 2).p 2).p 2),.inr ⟨rfl,hne,Il hn8 hn13,(by exact⟨[_,_],rfl⟩)⟩⟩
 ·refine .inr ⟨_,rfl,?_⟩;refine rE 2 I ?_;clear I a;intro a I;refine dj I ?_;clear O;have O:=hS';clear hS';exact⟨at',er,false,_,.inr ⟨rfl,.inl ⟨older,rfl,ho⟩⟩,(((O.p 2).p 2).p 2),.inr ⟨rfl,hne,Km (by rw[List.drop_zero]at hn8;exact hn8),(by exact⟨[_,_],rfl⟩)⟩⟩
theorem Bm (W:World)(A:Option Addr)(c:Nat)(bs:List UInt8)(hb:bs.length≤16777216)(hR:Rd W 1 (.slice A bs.length c) bs.length (bs.map aj)):Calls Tryz.prog 48 #[.slice A (bs).length c] W fun e w'=>(∃d:DL,ju aH d.d=true∧bs=dB 1 d.d∧d.small∧e=.returned (.tuple #[.agg #[.int .i64 d.self,.int .i64 d.next,.slice d.a d.hs.length d.c],.int .i64 0])∧Sat W w' [d.ch 68 216 3 219 206])∨(lk 1 aH bs∧e=.returned (.tuple #[.agg #[.int .i64 0,.int .i64 0,.slice none 0 0],.int .i64 8])∧Sat W w' []):=by
 refine bS Tryz.func48 [0] ?_;have O:=Sat.start W;have hbl:(bs.take (bs.length-8)).length=bs.length-8:=by rw[List.length_take];omega
 refine uC 2 ?_;refine uN C5 O ?_;clear O;intro b2 w O;refine uO 6 ?_;refine uF rfl (ri _ A c bs (hR.sat O) (by omega)) ?_;rintro e w (⟨hq,rfl,hT⟩ | ⟨hq,A',n',c',rfl,hT⟩)
 ·replace O:Sat _ _ _:=O.ag hT;clear hT;refine uO 1 ?_;refine u1 0 (ai rfl rfl) ?_;refine j4 0 0 (ai rfl rfl) ?_ ?_
  ·intro h13;intro a I;simp only at h13;refine rO 8 I ?_;clear I a;refine u1 7 (aB rfl) ?_;refine uN GX O ?_;clear O;intro b6 w O;refine uO 4 ?_;refine uN C5 O ?_;clear O;intro b7 w O;refine uO 5 ?_;intro a I;refine o1 0 I (qY (I.mW rfl)) ?_;clear I a;refine uF rfl (jH _ _ _ A (bs.take (bs.length-8)).length (bs.take (bs.length-8)) (fun _ at' err ok M=>GU (bs.take (bs.length-8)) b7 b6 [a6 b2 (.cells #[.int .i64 0,.int .i64 0,.slice none 0 0] 46)] at' err ok M) 99 [.pointer (some ⟨b7,0,none⟩),.pointer (some ⟨b6,0,none⟩)] O (by omega) JT (fun w r q p O=>y4 _ _ _ r q p b7 b6 A (bs.take (bs.length-8)).length (bs.take (bs.length-8)) O (by omega) (yu hR))) ?_;rintro e w ⟨r9,q9,p9,at',err,ok,M,rfl,O,(⟨rfl,rfl,s,n,hs,Ah,ch_,ae,rfl,ha,hbe,hs16,hn62,hgn,hh2,rfl⟩ | ⟨rfl,hne,hno,N,rfl⟩)⟩
   ·replace O:=O.drop.drop.drop;refine uO 3 ?_;intro a I;replace I:=I.kp [2,3,7,8] rfl;refine rC 4 I ?_;clear I a;refine aJ 0 0 (aD rfl rfl) ?_ ?_
    ·intro h21;refine uO 10 ?_;intro a I;refine o1 0 I (ar I rfl Cw) ?_;clear I a;refine uW (vs:=[_,_,_]) (cs':=[_,_,_]) rfl rfl qj (O.p 4) ?_;clear O;intro w O;refine uO 5 ?_;intro a I;refine bO I rfl (br (cs:=[_,_,_]) I rfl C0 qj (by exact O.ao (xs:=[_,_,_]) rfl)) (aQ I rfl) ?_;rw[mr rfl]at h21;have hSp:=fun d hd e=>et (d:=d) (f:=aH) (by decide) (fun d hd=>hd) (show (bs.take (bs.length-8)).length≤16777216 by omega) (by omega) (by omega) (by omega) hgn (Nat.le_refl _) hbe hd e
     exact .inr ⟨il rfl (CV hSp rfl (fun hd=>by have:=drop_nil ha hd;simp at h21;omega)),rfl,O.nil⟩
    ·intro h21;intro a I
     try (exfalso;rw[kR rfl,if_pos hne]at h21;exact h21 hne)
     refine rO 1 I ?_;clear I a;refine u1 0 (lS (cs:=[_,_,_]) rfl) ?_;refine iV rfl (pP _ (⟨(s:Int),(n:Int),Ah,ch_,hs⟩:DL) ⟨(O.p 1).rd,eo (O.p 2)⟩ ⟨by show hs.length≤_;omega,fun y hy=>(hgn y hy).2.2.2⟩) ?_;rintro e w ⟨rfl,hT⟩;replace O:Sat _ _ _:=O.ag hT;clear hT;cases h24:kr (DL.d (⟨(s:Int),(n:Int),Ah,ch_,hs⟩:DL))
     ·refine u1 6 (aB rfl) ?_;intro a I;refine o1 0 I (ar I rfl Cw) ?_;clear I a;refine uW (vs:=[_,_,_]) (cs':=[_,_,_]) rfl rfl qj (O.p 4) ?_;clear O;intro w O;refine uO 5 ?_;intro a I;refine bO I rfl (br (cs:=[_,_,_]) I rfl C0 qj (by exact O.ao (xs:=[_,_,_]) rfl)) (aQ I rfl) ?_;have hSp:=fun d hd e=>et (d:=d) (f:=aH) (by decide) (fun d hd=>hd) (show (bs.take (bs.length-8)).length≤16777216 by omega) (by omega) (by omega) (by omega) hgn (Nat.le_refl _) hbe hd e
      exact .inr ⟨il rfl (fun d hd e=>by have n5:=fI hd;rw[pz hSp rfl hd e]at n5;exact absurd n5 (by rw[show (⟨(s:Int),(n:Int),hs.map NL.d⟩:dT)=DL.d (⟨(s:Int),(n:Int),Ah,ch_,hs⟩:DL) from rfl,h24];decide)),rfl,O.nil⟩
     ·refine u1 8 (aB rfl) ?_;refine u1 0 (lS (cs:=[_,_,_]) rfl) ?_;refine uW (vs:=[_,_,_]) (cs':=[_,_,_]) rfl rfl qj (O.p 4) ?_;clear O;intro w O;refine uO 4 ?_;intro a I;refine bO I rfl (br (cs:=[_,_,_]) I rfl C0 qj (by exact O.ao (xs:=[_,_,_]) rfl)) (aQ I rfl) ?_;rw[mr rfl]at h21;have hn9:(bs.take (bs.length-8)).drop ae=[]:=List.drop_of_length_le (by simp at h21;omega);rw[hn9,List.append_nil]at hbe
      have hbd:(bs.take (bs.length-8))=dp 1 (DL.d (⟨(s:Int),(n:Int),Ah,ch_,hs⟩:DL)):=by
       rw[hbe];unfold dp;show _=dh ((s:Int)).toNat ((n:Int)).toNat (hs.map NL.d).length++bq 1 (hs.map NL.d);rw[List.length_map,Int.toNat_natCast,Int.toNat_natCast]
      refine .inl ⟨(⟨(s:Int),(n:Int),Ah,ch_,hs⟩:DL),sl h24 (fun y hy=>?_),?_,⟨by show hs.length≤_;omega,fun y hy=>(hgn y hy).2.2.2⟩,rfl,?_⟩
      ·have hy:y∈hs.map NL.d:=hy;obtain⟨z,hz,rfl⟩:=List.mem_map.1 hy;exact (hgn z hz).2.2.1
      ·have h9:=hq.2;rw[hbd]at h9;exact h9
      ·exact gy (DL.Ew ((O.p 3).p 3))
   ·replace O:=pd O.drop.drop.drop;refine uO 3 ?_;intro a I;replace I:=I.kp [2,3,7,8] rfl;refine rC 4 I ?_;clear I a;refine aJ 0 0 (aD rfl rfl) ?_ ?_
    ·intro h21;refine uO 10 ?_;intro a I;refine o1 0 I (ar I rfl Cw) ?_;clear I a;refine uW (vs:=[_,_,_]) (cs':=[_,_,_]) rfl rfl qj O ?_;clear O;intro w O;refine uO 5 ?_;intro a I;refine bO I rfl (br (cs:=[_,_,_]) I rfl C0 qj (by exact O.ao (xs:=[_,_,_]) rfl)) (aQ I rfl) ?_;exact .inr ⟨il rfl hno,rfl,O.nil⟩
    ·intro h21;intro a I
     try (exfalso;rw[kR rfl,if_pos hne]at h21;exact h21 hne)
  ·intro h13;intro a I;contradiction
 ·replace O:Sat _ _ _:=O.ag hT;clear hT;refine uO 1 ?_;refine u1 0 (ai rfl rfl) ?_;refine j4 0 0 (ai rfl rfl) ?_ ?_
  ·intro h13;intro a I;contradiction
  ·intro h13;intro a I;simp only at h13;refine rO 8 I ?_;clear I a;refine u1 5 (aB rfl) ?_;intro a I;refine o1 0 I (ar I rfl Cw) ?_;clear I a;refine uW (vs:=[_,_,_]) (cs':=[_,_,_]) rfl rfl qj O ?_;clear O;intro w O;refine uO 5 ?_;intro a I;refine bO I rfl (br (cs:=[_,_,_]) I rfl C0 qj (by exact O.ao (xs:=[_,_,_]) rfl)) (aQ I rfl) ?_;exact .inr ⟨oS hq,rfl,O.nil⟩
theorem Bs (W:World)(A:Option Addr)(c:Nat)(bs:List UInt8)(hb:bs.length≤16777216)(hR:Rd W 1 (.slice A bs.length c) bs.length (bs.map aj)):Calls Tryz.prog 49 #[.slice A (bs).length c] W fun e w'=>(∃d:DL,ju bD d.d=true∧bs=dB 2 d.d∧d.small∧e=.returned (.tuple #[.agg #[.int .i64 d.self,.int .i64 d.next,.slice d.a d.hs.length d.c],.int .i64 0])∧Sat W w' [d.ch 74 216 3 219 206])∨(lk 2 bD bs∧e=.returned (.tuple #[.agg #[.int .i64 0,.int .i64 0,.slice none 0 0],.int .i64 8])∧Sat W w' []):=by
 refine bS Tryz.func49 [0] ?_;have O:=Sat.start W;have hbl:(bs.take (bs.length-8)).length=bs.length-8:=by rw[List.length_take];omega
 refine uC 2 ?_;refine uN Dt O ?_;clear O;intro b2 w O;refine uO 6 ?_;refine uF rfl (ri _ A c bs (hR.sat O) (by omega)) ?_;rintro e w (⟨hq,rfl,hT⟩ | ⟨hq,A',n',c',rfl,hT⟩)
 ·replace O:Sat _ _ _:=O.ag hT;clear hT;refine uO 1 ?_;refine u1 0 (ai rfl rfl) ?_;refine j4 0 0 (ai rfl rfl) ?_ ?_
  ·intro h13;intro a I;simp only at h13;refine rO 8 I ?_;clear I a;refine u1 7 (aB rfl) ?_;refine uN IP O ?_;clear O;intro b6 w O;refine uO 4 ?_;refine uN Dt O ?_;clear O;intro b7 w O;refine uO 5 ?_;intro a I;refine o1 0 I (qY (I.mW rfl)) ?_;clear I a;refine uF rfl (jH _ _ _ A (bs.take (bs.length-8)).length (bs.take (bs.length-8)) (fun _ at' err ok M=>GH (bs.take (bs.length-8)) b7 b6 [a6 b2 (.cells #[.int .i64 0,.int .i64 0,.slice none 0 0] 50)] at' err ok M) 104 [.pointer (some ⟨b7,0,none⟩),.pointer (some ⟨b6,0,none⟩)] O (by omega) H0 (fun w r q p O=>zB _ _ _ r q p b7 b6 A (bs.take (bs.length-8)).length (bs.take (bs.length-8)) O (by omega) (yu hR))) ?_;rintro e w ⟨r9,q9,p9,at',err,ok,M,rfl,O,(⟨rfl,rfl,s,n,hs,Ah,ch_,ae,rfl,ha,hbe,hs16,hn62,hgn,hh2,rfl⟩ | ⟨rfl,hne,hno,N,rfl⟩)⟩
   ·replace O:=O.drop.drop.drop;refine uO 3 ?_;intro a I;replace I:=I.kp [2,3,7,8] rfl;refine rC 4 I ?_;clear I a;refine aJ 0 0 (aD rfl rfl) ?_ ?_
    ·intro h21;refine uO 10 ?_;intro a I;refine o1 0 I (ar I rfl Cs) ?_;clear I a;refine uW (vs:=[_,_,_]) (cs':=[_,_,_]) rfl rfl qs (O.p 4) ?_;clear O;intro w O;refine uO 5 ?_;intro a I;refine bO I rfl (br (cs:=[_,_,_]) I rfl Em qs (by exact O.ao (xs:=[_,_,_]) rfl)) (aQ I rfl) ?_;rw[mr rfl]at h21;have hSp:=fun d hd e=>et (d:=d) (f:=bD) (by decide) (fun d hd=>cT hd) (show (bs.take (bs.length-8)).length≤16777216 by omega) (by omega) (by omega) (by omega) hgn (Nat.le_refl _) hbe hd e
     exact .inr ⟨il rfl (CV hSp rfl (fun hd=>by have:=drop_nil ha hd;simp at h21;omega)),rfl,O.nil⟩
    ·intro h21;intro a I
     try (exfalso;rw[kR rfl,if_pos hne]at h21;exact h21 hne)
     refine rO 1 I ?_;clear I a;refine u1 0 (lS (cs:=[_,_,_]) rfl) ?_;refine iV rfl (pI _ (⟨(s:Int),(n:Int),Ah,ch_,hs⟩:DL) ⟨(O.p 1).rd,eo (O.p 2)⟩ ⟨by show hs.length≤_;omega,fun y hy=>(hgn y hy).2.2.2⟩) ?_;rintro e w ⟨rfl,hT⟩;replace O:Sat _ _ _:=O.ag hT;clear hT;cases h24:kr (DL.d (⟨(s:Int),(n:Int),Ah,ch_,hs⟩:DL))
     ·refine u1 6 (aB rfl) ?_;intro a I;refine o1 0 I (ar I rfl Cs) ?_;clear I a;refine uW (vs:=[_,_,_]) (cs':=[_,_,_]) rfl rfl qs (O.p 4) ?_;clear O;intro w O;refine uO 5 ?_;intro a I;refine bO I rfl (br (cs:=[_,_,_]) I rfl Em qs (by exact O.ao (xs:=[_,_,_]) rfl)) (aQ I rfl) ?_;have hSp:=fun d hd e=>et (d:=d) (f:=bD) (by decide) (fun d hd=>cT hd) (show (bs.take (bs.length-8)).length≤16777216 by omega) (by omega) (by omega) (by omega) hgn (Nat.le_refl _) hbe hd e
      exact .inr ⟨il rfl (fun d hd e=>by have n5:=fI hd;rw[pz hSp rfl hd e]at n5;exact absurd n5 (by rw[show (⟨(s:Int),(n:Int),hs.map NL.d⟩:dT)=DL.d (⟨(s:Int),(n:Int),Ah,ch_,hs⟩:DL) from rfl,h24];decide)),rfl,O.nil⟩
     ·refine u1 8 (aB rfl) ?_;refine u1 0 (lS (cs:=[_,_,_]) rfl) ?_;refine uW (vs:=[_,_,_]) (cs':=[_,_,_]) rfl rfl qs (O.p 4) ?_;clear O;intro w O;refine uO 4 ?_;intro a I;refine bO I rfl (br (cs:=[_,_,_]) I rfl Em qs (by exact O.ao (xs:=[_,_,_]) rfl)) (aQ I rfl) ?_;rw[mr rfl]at h21;have hn9:(bs.take (bs.length-8)).drop ae=[]:=List.drop_of_length_le (by simp at h21;omega);rw[hn9,List.append_nil]at hbe
      have hbd:(bs.take (bs.length-8))=dp 2 (DL.d (⟨(s:Int),(n:Int),Ah,ch_,hs⟩:DL)):=by
       rw[hbe];unfold dp;show _=dh ((s:Int)).toNat ((n:Int)).toNat (hs.map NL.d).length++bq 2 (hs.map NL.d);rw[List.length_map,Int.toNat_natCast,Int.toNat_natCast]
      refine .inl ⟨(⟨(s:Int),(n:Int),Ah,ch_,hs⟩:DL),sl h24 (fun y hy=>?_),?_,⟨by show hs.length≤_;omega,fun y hy=>(hgn y hy).2.2.2⟩,rfl,?_⟩
      ·have hy:y∈hs.map NL.d:=hy;obtain⟨z,hz,rfl⟩:=List.mem_map.1 hy;exact (hgn z hz).2.2.1
      ·have h9:=hq.2;rw[hbd]at h9;exact h9
      ·exact gy (DL.Ew ((O.p 3).p 3))
   ·replace O:=pd O.drop.drop.drop;refine uO 3 ?_;intro a I;replace I:=I.kp [2,3,7,8] rfl;refine rC 4 I ?_;clear I a;refine aJ 0 0 (aD rfl rfl) ?_ ?_
    ·intro h21;refine uO 10 ?_;intro a I;refine o1 0 I (ar I rfl Cs) ?_;clear I a;refine uW (vs:=[_,_,_]) (cs':=[_,_,_]) rfl rfl qs O ?_;clear O;intro w O;refine uO 5 ?_;intro a I;refine bO I rfl (br (cs:=[_,_,_]) I rfl Em qs (by exact O.ao (xs:=[_,_,_]) rfl)) (aQ I rfl) ?_;exact .inr ⟨il rfl hno,rfl,O.nil⟩
    ·intro h21;intro a I
     try (exfalso;rw[kR rfl,if_pos hne]at h21;exact h21 hne)
  ·intro h13;intro a I;contradiction
 ·replace O:Sat _ _ _:=O.ag hT;clear hT;refine uO 1 ?_;refine u1 0 (ai rfl rfl) ?_;refine j4 0 0 (ai rfl rfl) ?_ ?_
  ·intro h13;intro a I;contradiction
  ·intro h13;intro a I;simp only at h13;refine rO 8 I ?_;clear I a;refine u1 5 (aB rfl) ?_;intro a I;refine o1 0 I (ar I rfl Cs) ?_;clear I a;refine uW (vs:=[_,_,_]) (cs':=[_,_,_]) rfl rfl qs O ?_;clear O;intro w O;refine uO 5 ?_;intro a I;refine bO I rfl (br (cs:=[_,_,_]) I rfl Em qs (by exact O.ao (xs:=[_,_,_]) rfl)) (aQ I rfl) ?_;exact .inr ⟨oS hq,rfl,O.nil⟩
structure KL where
 aZ:Int
 f:SL
 s:SL
def KL.n1 (h:KL):NL:=⟨h.aZ,h.f⟩
def KL.n2 (h:KL):NL:=⟨h.aZ,h.s⟩
def gL (h:KL):List Value:=[.int .i64 h.aZ,.slice h.f.e.a h.f.e.es.length h.f.e.c,.slice h.f.p.va h.f.p.d.vec.length h.f.p.vc,.slice h.f.p.ca h.f.p.d.ab.length h.f.p.cc,.slice h.f.r.a h.f.r.rs.length h.f.r.c,.slice h.s.e.a h.s.e.es.length h.s.e.c,.slice h.s.p.va h.s.p.d.vec.length h.s.p.vc,.slice h.s.p.ca h.s.p.d.ab.length h.s.p.cc,.slice h.s.r.a h.s.r.rs.length h.s.r.c]
theorem ER (h:KL):(gL h).length=9:=rfl
theorem gM {xs:List KL}{i:Nat}{x:KL}(h:xs[i]?=some x):∀j u,(gL x)[j]?=some u→(xs.flatMap gL)[i * 9+j]?=some u:=jI ER h
theorem Ih (x:KL)(j:Nat)(u:Value)(e:(rG x.f)[j]?=some u):(gL x)[1+j]?=some u:=by
 show (Value.int .i64 x.aZ::(rG x.f++rG x.s))[1+j]?=some u;rw[Nat.add_comm,List.getElem?_cons_succ,List.getElem?_append_left (List.getElem?_eq_some_iff.1 e).1];exact e
theorem Ic (x:KL)(j:Nat)(u:Value)(e:(rG x.s)[j]?=some u):(gL x)[5+j]?=some u:=by
 show (Value.int .i64 x.aZ::(rG x.f++rG x.s))[5+j]?=some u;rw[show 5+j=4+j+1 from by omega,List.getElem?_cons_succ,List.getElem?_append_right (by show 4≤4+j;omega)];show (rG x.s)[4+j-4]?=some u;rw[Nat.add_sub_cancel_left];exact e
structure cn where
 self:Int
 next:Int
 a:Option Addr
 c:Nat
 hs:List KL
def cn.d1 (x:cn):dT:=⟨x.self,x.next,(x.hs.map KL.n1).map NL.d⟩
def cn.d2 (x:cn):dT:=⟨x.self,x.next,(x.hs.map KL.n2).map NL.d⟩
structure cn.ok (w:World)(x:cn):Prop where
 top:Rd w 9 (.slice x.a x.hs.length x.c) x.hs.length (x.hs.flatMap gL)
 GN:∀h∈x.hs,h.f.ok w
 GQ:∀h∈x.hs,h.s.ok w
theorem cn.ok.sat {W w:World}{L:List As}{x:cn}(h:x.ok W)(t:Sat W w L):x.ok w:=⟨h.top.sat t,fun y hy=>(h.GN y hy).sat t,fun y hy=>(h.GQ y hy).sat t⟩
structure cn.small (x:cn):Prop where
 len:x.hs.length≤1000000000
 GP:∀h∈x.hs,kQ h.f
 GF:∀h∈x.hs,kQ h.s
instance:DecidableEq nX:=fun a b=>decidable_of_iff (a.aZ=b.aZ∧a.st=b.st) (by cases a;cases b;simp)
instance:DecidableEq dT:=fun a b=>decidable_of_iff (a.self=b.self∧a.next=b.next∧a.hs=b.hs) (by cases a;cases b;simp)
def yK:SL:=⟨⟨none,0,[]⟩,⟨none,0,none,0,⟨[],[]⟩⟩,⟨none,0,[]⟩⟩
theorem mb (w:World):yK.ok w:=⟨⟨none,0,rfl,Nat.le_refl _,rfl,.inl rfl⟩,⟨⟨none,0,rfl,Nat.le_refl _,rfl,.inl rfl⟩,⟨none,0,rfl,Nat.le_refl _,rfl,.inl rfl⟩⟩,⟨⟨none,0,rfl,Nat.le_refl _,rfl,.inl rfl⟩,fun x hx=>by cases hx⟩⟩
theorem py:kQ yK:=⟨by show 0≤_;omega,by show 0≤_;omega,by show 0≤_;omega,fun r hr=>(by cases hr),(by show 0≤_;omega)⟩
theorem ik {hs:List KL}{i:Nat}{x:KL}(h:hs[i]?=some x):((hs.map KL.n1).map NL.d)[i]?=some x.n1.d:=by rw[List.getElem?_map,List.getElem?_map,h];rfl
theorem ic {hs:List KL}{i:Nat}{x:KL}(h:hs[i]?=some x):((hs.map KL.n2).map NL.d)[i]?=some x.n2.d:=by rw[List.getElem?_map,List.getElem?_map,h];rfl
theorem CC {m m':Nat}(h:m=m' % 256):Value.int .u8 (m:Int)=aj (UInt8.ofNat m'):=by
 unfold aj;rw[UInt8.toNat_ofNat',h]
def jq (p:Option nX):Int:=match p with | some q=>q.aZ | none=>-1
theorem xm {M:List nX}{i:Nat}{x:nX}(hx:M[i]?=some x)(h1:¬x.aZ≤jq (ahead none M i))(h2:¬64≤x.aZ)(hp:∀j z,j<i→M[j]?=some z→cO (ahead none M j) z=true):cO (ahead none M i) x=true:=by
 unfold cO;cases e:ahead none M i with
 | none =>
   rw[e]at h1;have:(-1:Int)<x.aZ:=by unfold jq at h1;simp only at h1;omega
   simp;omega
 | some q =>
   rw[e]at h1;unfold jq at h1;simp only at h1
   have hq:0≤q.aZ:=by
    have hi:¬i=0:=fun h=>by subst h;simp[ahead]at e
    unfold ahead at e;rw[if_neg hi]at e;have:=hp (i-1) q (by omega) e;unfold cO at this;simp only[Bool.and_eq_true,decide_eq_true_eq]at this;exact this.1.1
   simp;omega
theorem o6 {M:List nX}{i:Nat}{x:nX}(h:x.aZ≤jq (ahead none M i)∨64≤x.aZ):cO (ahead none M i) x=false:=by
 rw[Bool.eq_false_iff];intro e;unfold cO at e;simp only[Bool.and_eq_true,decide_eq_true_eq]at e;rcases h with h | h
 ·
  cases q:ahead none M i with
  | none=>rw[q]at h;unfold jq at h;simp only at h;omega
  | some y =>
    rw[q]at h e;unfold jq at h;simp only at h;have:=e.2;simp only[decide_eq_true_eq]at this;omega
 ·
  omega
theorem re {f:iR→Bool}{d:dT}{i:Nat}{x:nX}(hx:d.hs[i]?=some x)(h:cO (ahead none d.hs i) x=false):ju f d=false:=eJ (ll hx h)
theorem qA {M:List nX}{i:Nat}(hi:i≤M.length)(hp:∀j z,j<i→M[j]?=some z→cO (ahead none M j) z=true):-1≤jq (ahead none M i)∧jq (ahead none M i)<64:=by
 unfold jq;cases e:ahead none M i with
 | none=>simp
 | some q =>
   have h0:¬i=0:=fun h=>by subst h;simp[ahead]at e
   unfold ahead at e;rw[if_neg h0]at e;have:=hp (i-1) q (by omega) e;unfold cO at this;simp only[Bool.and_eq_true,decide_eq_true_eq]at this;simp only;omega
theorem jA {M:List nX}{i:Nat}(hi:i≤M.length)(hp:∀j z,j<i→M[j]?=some z→cO (ahead none M j) z=true):i≤64:=by
 have h:kJ cO none (M.take i)=true:=di fun j z hz=>by
  have hj:j<i:=by have:=(List.getElem?_eq_some_iff.1 hz).1;rw[List.length_take]at this;omega
  rw[List.getElem?_take,if_pos hj]at hz;have h1:=hp j z hj hz
  have h2:ahead none (M.take i) j=ahead none M j:=by
   unfold ahead
   split
   ·
    rfl
   ·
    rw[List.getElem?_take,if_pos (by omega)]
  rw[h2];exact h1
 have:=kO h;rw[List.length_take]at this;omega
theorem vK (k:Nat)(d:dT):4≤(dp k d).length:=by
 rw[mZ];have a:=cm 3;have b:=cm d.self.toNat;have c:=cm d.next.toNat;have e:=cm d.hs.length;simp only[List.length_append];omega
theorem Bq (k:Nat)(d:dT):(dp k d)[0]?=some 3:=by
 rw[mZ,ey (by decide)];rfl
theorem sN {k:Nat}{f:iR→Bool}{bs:List UInt8}(h:bs.length<12):lk k f bs:=fun d _ e=>by
 have:=vK k d;rw[e]at h;unfold dB at h;rw[oL]at h;omega
theorem tU {k:Nat}{f:iR→Bool}{bs:List UInt8}{x:UInt8}(hx:bs[0]?=some x)(h:(x.toNat:Int)≠3):lk k f bs:=fun d _ e=>by
 have h1:(dB k d)[0]?=some 3:=by
  unfold dB fj;rw[List.getElem?_append_left (by have:=vK k d;omega)];exact Bq k d
 rw[←e,hx]at h1
 injection h1 with h1
 subst h1;exact h rfl
theorem jf (W w:World)(L:List As)(A:Option Addr)(c:Nat)(bs:List UInt8)(v:Nat)(O:Sat W w (row 5 1 (.slice A (bs).length c) (bs).length ((bs).map aj)::L))(hv:v≤9223372036854775807)(hl:bs.length≤100000000000000):Calls Tryz.prog 40 #[.slice A (bs).length c,.int .i64 ((v:Nat):Int)] w fun e w'=>∃A' c',e=.returned (.slice A' (bs++aV v).length c')∧Sat W w' (row 5 1 (.slice A' (bs++aV v).length c') (bs++aV v).length ((bs++aV v).map aj)::L):=by
 refine bS Tryz.func40 [0,1] ?_;have h9:=cB (n:=v) (by omega);refine uC 8 ?_;refine uF rfl (rD _ v (by omega)) ?_;rintro e w ⟨A8,c8,rfl,hT⟩;replace O:=O.aM hT;clear hT;refine uO 10 ?_;intro a I;refine wp_loop_ghost (fun (mm:Nat) a w=>∃(i:Nat) (out:List UInt8) (Ao:Option Addr) (co:Nat),Ag a 23 [(0,.slice Ao (out).length co),(5,.slice A8 ((aV v)).length c8),(6,.int .i64 ((i:Nat):Int))]∧Sat W w (row 5 1 (.slice Ao (out).length co) (out).length ((out).map aj)::row 5 1 (.slice A8 ((aV v)).length c8) ((aV v)).length (((aV v)).map aj)::L)∧(i≤(aV v).length)∧(out=bs++(aV v).take i)∧(out.length=bs.length+i)∧mm=(aV v).length-i) (aV v).length ?_ ?_
 ·replace I:=I.kp [0,5,6] rfl;exact⟨0,_,_,_,I,(O.p 1),(by omega),(by simp),(by omega),by omega⟩
 intro m a w hI;clear O I;obtain⟨i,out,Ao,co,I,O,hi,ho,hol,rfl⟩:=hI;refine rC 5 I ?_;clear I a;refine u1 0 (ak rfl bd) ?_;refine aJ 0 0 (aq rfl rfl) ?_ ?_
 ·intro h12;refine uO 11 ?_;obtain⟨A8_p,rfl⟩:∃q,A8=some q:=(O.p 1).rd.au (by omega);obtain⟨x,hx⟩:∃zz_,(aV v)[i]?=some zz_:=⟨_,List.getElem?_eq_getElem (by omega)⟩;refine u1 0 (ix rfl rfl bd sL) ?_;refine u1 0 (an rfl Az (fP (O.p 1).rd (bu hx))) ?_;intro a I;refine nZ I rfl rfl bd mX rfl rfl rfl (by simp[Value.oneCell',aj]) O ?_;clear I a O;intro A20 w O;intro a I;refine dq I rfl rfl rfl bd mX rfl (O.p 1) (O.rd.src bd (by simp[Value.oneCell',aj])) (by omega) (by omega) ?_;clear I a O;intro A21 c21 w hc21 O;refine uO 6 ?_;refine u1 2 (ad rfl rfl) ?_;intro a I;replace I:=I.kp [0,5,6] rfl;have e1:(out).map aj++[aj x]=(out++[x]).map aj:=by simp
  have e2:(out).length+1=(out++[x]).length:=by simp
  rw[e1,e2]at O;rw[e2]at I;clear e1 e2;refine⟨(aV v).length-(i+1),by omega,i+1,out++[x],_,_,I,(O.p 1).drop,by omega,?_,by simp only[List.length_append,List.length_cons,List.length_nil];omega,rfl⟩;rw[ho,aF hx,List.append_assoc]
 ·intro h12;refine uO 15 ?_;refine aY ?_;have hie:i=(aV v).length:=by omega
  rw[hie,List.take_length]at ho;subst ho;exact⟨_,_,rfl,(O.p 1).drop⟩
theorem jN (W w:World)(L:List As)(A:Option Addr)(c:Nat)(bs:List UInt8)(n:Nat)(O:Sat W w (row 5 1 (.slice A (bs).length c) (bs).length ((bs).map aj)::L))(hn:n<4294967296)(hl:bs.length≤100000000000000):Calls Tryz.prog 43 #[.slice A (bs).length c,.int .i64 ((n:Nat):Int)] w fun e w'=>∃A' c',e=.returned (.slice A' (bs++cU n).length c')∧Sat W w' (row 5 1 (.slice A' (bs++cU n).length c') (bs++cU n).length ((bs++cU n).map aj)::L):=by
 refine bS Tryz.func43 [0,1] ?_
 refine uC 9 ?_;refine u1 0 (aw (kH rfl rfl (by omega) (by omega) (by omega)) (show _=Value.int .i64 ((n / 16777216:Nat):Int) from congrArg (Value.int .i64) (by omega))) ?_;refine u1 1 (aw (jK rfl pA oa (by omega) (by omega)) (show Value.int .u8 ((n / 16777216:Nat):Int)=aj (UInt8.ofNat (n / 16777216)) from CC (by omega))) ?_;refine u1 0 (aw (kH rfl rfl (by omega) (by omega) (by omega)) (show _=Value.int .i64 ((n / 65536:Nat):Int) from congrArg (Value.int .i64) (by omega))) ?_;refine u1 0 (aw (gj rfl rfl (by omega) (by omega)) (show _=Value.int .i64 ((n / 65536 % 256:Nat):Int) from congrArg (Value.int .i64) (by omega))) ?_;refine u1 1 (aw (jK rfl pA oa (by omega) (by omega)) (show Value.int .u8 ((n / 65536 % 256:Nat):Int)=aj (UInt8.ofNat (n / 65536)) from CC (by omega))) ?_;refine u1 0 (aw (kH rfl rfl (by omega) (by omega) (by omega)) (show _=Value.int .i64 ((n / 256:Nat):Int) from congrArg (Value.int .i64) (by omega))) ?_;refine u1 0 (aw (gj rfl rfl (by omega) (by omega)) (show _=Value.int .i64 ((n / 256 % 256:Nat):Int) from congrArg (Value.int .i64) (by omega))) ?_;refine u1 1 (aw (jK rfl pA oa (by omega) (by omega)) (show Value.int .u8 ((n / 256 % 256:Nat):Int)=aj (UInt8.ofNat (n / 256)) from CC (by omega))) ?_;refine u1 0 (aw (gj rfl rfl (by omega) (by omega)) (show _=Value.int .i64 ((n % 256:Nat):Int) from congrArg (Value.int .i64) (by omega))) ?_;refine u1 0 (aw (jK rfl pA oa (by omega) (by omega)) (show Value.int .u8 ((n % 256:Nat):Int)=aj (UInt8.ofNat (n)) from CC (by omega))) ?_
 intro a I;refine nZ I rfl rfl bd mX rfl rfl rfl (by simp[Value.oneCell',aj]) O ?_;clear I a O;intro A20 w O;intro a I;refine dq I rfl rfl rfl bd mX rfl (O.p 1) (O.rd.src bd (by simp[Value.oneCell',aj])) (by omega) (by omega) ?_;clear I a O;intro A21 c21 w hc21 O;have e1:bs.map aj++[aj (UInt8.ofNat (n / 16777216)),aj (UInt8.ofNat (n / 65536)),aj (UInt8.ofNat (n / 256)),aj (UInt8.ofNat n)]=(bs++cU n).map aj:=by simp[cU]
 have e2:bs.length+4=(bs++cU n).length:=by simp[cU]
 intro a I;rw[e1,e2]at O;rw[e2]at I;refine rO 4 I ?_;clear I a;refine aY ?_;exact⟨_,_,rfl,(O.p 1).drop⟩
theorem u3 (W:World)(h:KL)(hp:h.f.ok W)(hs:kQ h.f):Calls Tryz.prog 41 #[.int .i64 1,.agg #[.int .i64 h.aZ,.slice h.f.e.a h.f.e.es.length h.f.e.c,.slice h.f.p.va h.f.p.d.vec.length h.f.p.vc,.slice h.f.p.ca h.f.p.d.ab.length h.f.p.cc,.slice h.f.r.a h.f.r.rs.length h.f.r.c,.slice h.s.e.a h.s.e.es.length h.s.e.c,.slice h.s.p.va h.s.p.d.vec.length h.s.p.vc,.slice h.s.p.ca h.s.p.d.ab.length h.s.p.cc,.slice h.s.r.a h.s.r.rs.length h.s.r.c]] W fun e w'=>∃A' c',e=.returned (.tuple #[.slice A' (jw aH 1 h.f.d).length c',.int .i64 (wV aH h.f.d)])∧Sat W w' [row 5 1 (.slice A' (jw aH 1 h.f.d).length c') (jw aH 1 h.f.d).length ((jw aH 1 h.f.d).map aj)]:=by
 refine bS Tryz.func41 [0,1] ?_;have O:=Sat.start W;refine uC 2 ?_;refine uB rfl O ?_;clear O;intro b3 w O;refine uO 8 ?_;refine u1 5 (c5 (aU rfl rfl) (by omega)) ?_;refine u1 0 (aa rfl Bz) ?_;refine u1 0 (lS (cs:=[_,_,_,_]) rfl) ?_;refine uF rfl (rb _ h.f (hp.sat O) hs) ?_;rintro e w ⟨A10,c10,rfl,hT⟩;replace O:=O.aM hT;clear hT;refine u1 0 (ai rfl rfl) ?_;refine u1 6 (ai rfl rfl) ?_;refine fo ?_;exact⟨_,_,rfl,gy O⟩
theorem u7 (W:World)(h:KL)(hp:h.s.ok W)(hs:kQ h.s):Calls Tryz.prog 41 #[.int .i64 2,.agg #[.int .i64 h.aZ,.slice h.f.e.a h.f.e.es.length h.f.e.c,.slice h.f.p.va h.f.p.d.vec.length h.f.p.vc,.slice h.f.p.ca h.f.p.d.ab.length h.f.p.cc,.slice h.f.r.a h.f.r.rs.length h.f.r.c,.slice h.s.e.a h.s.e.es.length h.s.e.c,.slice h.s.p.va h.s.p.d.vec.length h.s.p.vc,.slice h.s.p.ca h.s.p.d.ab.length h.s.p.cc,.slice h.s.r.a h.s.r.rs.length h.s.r.c]] W fun e w'=>∃A' c',e=.returned (.tuple #[.slice A' (jw bD 2 h.s.d).length c',.int .i64 (wV bD h.s.d)])∧Sat W w' [row 5 1 (.slice A' (jw bD 2 h.s.d).length c') (jw bD 2 h.s.d).length ((jw bD 2 h.s.d).map aj)]:=by
 refine bS Tryz.func41 [0,1] ?_;have O:=Sat.start W;refine uC 2 ?_;refine uB rfl O ?_;clear O;intro b3 w O;refine uO 8 ?_;refine u1 7 (dz (aU rfl rfl) (by omega)) ?_;refine u1 0 (aa rfl Bu) ?_;refine u1 0 (lS (cs:=[_,_,_,_]) rfl) ?_;refine uF rfl (sg _ h.s (hp.sat O) hs) ?_;rintro e w ⟨A10,c10,rfl,hT⟩;replace O:=O.aM hT;clear hT;refine u1 0 (ai rfl rfl) ?_;refine u1 5 (ai rfl rfl) ?_;refine fo ?_;exact⟨_,_,rfl,gy O⟩
theorem fL (W w:World)(L:List As)(A:Option Addr)(c:Nat)(bs:List UInt8)(v:Int)(O:Sat W w (row 5 1 (.slice A (bs).length c) (bs).length ((bs).map aj)::L))(h0:0≤v)(hv:v≤9223372036854775807)(hl:bs.length≤100000000000000):Calls Tryz.prog 40 #[.slice A (bs).length c,.int .i64 v] w fun e w'=>∃A' c',e=.returned (.slice A' (bs++aV v.toNat).length c')∧Sat W w' (row 5 1 (.slice A' (bs++aV v.toNat).length c') (bs++aV v.toNat).length ((bs++aV v.toNat).map aj)::L):=by
 obtain⟨n,rfl⟩:=Int.eq_ofNat_of_zero_le h0;exact jf W w L A c bs n O (by omega) hl
theorem wh (W:World)(d:cn)(hp:d.ok W)(hs0:d.small):Calls Tryz.prog 11 #[.int .i64 1,.agg #[.int .i64 d.self,.int .i64 d.next,.slice d.a d.hs.length d.c]] W fun e w'=>(ju aH d.d1=true∧∃A' c',e=.returned (.tuple #[.slice A' (dB 1 d.d1).length c',.int .i64 0])∧Sat W w' [row 5 1 (.slice A' (dB 1 d.d1).length c') (dB 1 d.d1).length ((dB 1 d.d1).map aj)])∨(ju aH d.d1=false∧e=.returned (.tuple #[.slice none 0 0,.int .i64 1])∧Sat W w' []):=by
 refine bS Tryz.func11 [0,1] ?_;have O:=Sat.start W;obtain⟨self,next,ka,kc,hs⟩:=d;have hR:Rd W 9 (.slice ka hs.length kc) hs.length (hs.flatMap gL):=hp.top;have hF:∀h∈hs,h.f.ok W:=hp.GN;have hSo:∀h∈hs,h.s.ok W:=hp.GQ;have hl:hs.length≤1000000000:=hs0.len;have hFm:∀h∈hs,kQ h.f:=hs0.GP;have hSm:∀h∈hs,kQ h.s:=hs0.GF;intro a I;dsimp only at I ⊢;refine rC 2 I ?_;clear I a;refine uB rfl O ?_;clear O;intro b3 w O;refine uO 7 ?_;refine u1 0 (aa rfl kl) ?_;refine u1 0 (ld rfl) ?_;refine aJ 0 0 (aq rfl rfl) ?_ ?_
 ·intro h16;refine uO 26 ?_;refine fo ?_;exact .inr ⟨eJ (fm (d:=(cn.d1 ⟨self,next,ka,kc,hs⟩)) (by show self<0∨16≤self∨next<0∨4611686018427387904<next;omega)),rfl,O.nil⟩
 ·intro h16;refine uO 1 ?_;refine u1 0 (aa rfl kl) ?_;refine u1 0 (ld rfl) ?_;refine aJ 0 0 (dF rfl rfl) ?_ ?_
  ·intro h20;refine uO 22 ?_;refine fo ?_;exact .inr ⟨eJ (fm (d:=(cn.d1 ⟨self,next,ka,kc,hs⟩)) (by show self<0∨16≤self∨next<0∨4611686018427387904<next;omega)),rfl,O.nil⟩
  ·intro h20;refine uO 2 ?_;refine u1 0 (aa rfl km) ?_;refine u1 0 (ld rfl) ?_;refine aJ 0 0 (aq rfl rfl) ?_ ?_
   ·intro h25;refine uO 17 ?_;refine fo ?_;exact .inr ⟨eJ (fm (d:=(cn.d1 ⟨self,next,ka,kc,hs⟩)) (by show self<0∨16≤self∨next<0∨4611686018427387904<next;omega)),rfl,O.nil⟩
   ·intro h25;refine uO 2 ?_;refine u1 0 (aa rfl km) ?_;refine u1 0 (ld rfl) ?_;refine aJ 0 0 (cG rfl rfl) ?_ ?_
    ·intro h30;refine uO 12 ?_;refine fo ?_;exact .inr ⟨eJ (fm (d:=(cn.d1 ⟨self,next,ka,kc,hs⟩)) (by show self<0∨16≤self∨next<0∨4611686018427387904<next;omega)),rfl,O.nil⟩
    ·intro h30;refine uO 8 ?_;intro a I;refine nZ I rfl rfl bd mX rfl rfl rfl (by simp[Value.oneCell']) O ?_;clear I a O;intro A32 w O;refine uO 5 ?_;intro a I;change Sat W w (row 5 1 (.slice A32 ([3]).length 1) ([3]).length (([3]).map aj)::_) at O;have hfs0:0≤self:=by omega
     have hfn0:0≤next:=by omega
     obtain⟨sf,hsf⟩:=Int.eq_ofNat_of_zero_le hfs0;obtain⟨nx,hnx⟩:=Int.eq_ofNat_of_zero_le hfn0;have hst:self.toNat=sf:=by omega
     have hnt:next.toNat=nx:=by omega
     refine rO 1 I ?_;clear I a;refine u1 0 (aa rfl kl) ?_;refine u1 0 (ld rfl) ?_;refine uF rfl (fL _ _ _ A32 1 [3] self O (by omega) (by omega) (by simp)) ?_;clear O;rintro e w ⟨An36,cn36,rfl,O⟩;have hn36:=nine (n:=self.toNat) (by omega);refine uO 3 ?_;intro a I;replace I:=I.kp [0,3,4,5,6] rfl;refine rC 3 I ?_;clear I a;refine u1 0 (aa rfl km) ?_;refine u1 0 (ld rfl) ?_;refine uF rfl (fL _ _ _ _ _ _ next O (by omega) (by omega) (by simp only[List.length_append,List.length_cons,List.length_nil];omega)) ?_;clear O;rintro e w ⟨An40,cn40,rfl,O⟩;have hn40:=nine (n:=next.toNat) (by omega);refine uO 6 ?_;refine u1 0 (aa rfl cN) ?_;refine u1 0 (ld rfl) ?_;refine u1 0 (ak rfl fw) ?_
     refine uF rfl (jf _ _ _ _ _ _ (hs.length) O (by omega) (by (simp only[List.length_append,List.length_cons,List.length_nil];omega))) ?_;clear O;rintro e w ⟨An45,cn45,rfl,O⟩;have hn45:=nine (n:=hs.length) (by omega);refine uO 15 ?_;intro a I
     refine wp_loop_ghost (fun (mm:Nat) a w=>∃(i:Nat) (out:List UInt8) (Ao:Option Addr) (co:Nat),Ag a 121 [(0,.int .i64 1),(3,.pointer (some ⟨b3,0,none⟩)),(6,.slice Ao (out).length co),(7,.int .i64 ((jq (ahead none ((hs.map KL.n1).map NL.d) i)))),(8,.int .i64 ((i:Nat):Int))]∧Sat W w ([row 5 1 (.slice Ao (out).length co) (out).length ((out).map aj),a6 b3 (.cells #[.int .i64 self,.int .i64 next,.slice ka hs.length kc] 24)])∧(i≤hs.length)∧(out=dh self.toNat next.toNat hs.length++bq 1 (((hs.map KL.n1).take i).map NL.d))∧(∀j z,j<i→hs[j]?=some z→aH z.f.d=true)∧(∀j z,j<i→((hs.map KL.n1).map NL.d)[j]?=some z→cO (ahead none ((hs.map KL.n1).map NL.d) j) z=true)∧(out.length≤40+i * 8000000000)∧mm=hs.length-i) hs.length ?_ ?_
     ·replace I:=I.kp [0,3,6,7,8] rfl;exact⟨0,_,_,_,I,(n5 O),(by omega),(by rw[show ([3]:List UInt8)=aV 3 from by rw[ey (by decide)];rfl];simp[dh,bq]),(by intro j z hj;omega),(by intro j z hj;omega),(by simp only[List.length_append,List.length_cons,List.length_nil];omega),by omega⟩
     intro m a w hI;clear O I;obtain⟨i,out,Ao,co,I,O,hi,ho,hok,hct,hol,rfl⟩:=hI;refine rC 4 I ?_;clear I a;refine u1 0 (aa rfl cN) ?_;refine u1 0 (ld rfl) ?_;refine u1 0 (ak rfl fw) ?_;refine aJ 0 0 (aq rfl rfl) ?_ ?_
     ·intro h50;refine uO 10 ?_;refine u1 0 (aa rfl cN) ?_;refine u1 1 (ld rfl) ?_;obtain⟨ka_p,rfl⟩:∃q,ka=some q:=(hR.sat O).au (by omega);obtain⟨x,hx⟩:∃zz_,hs[i]?=some zz_:=⟨_,List.getElem?_eq_getElem (by omega)⟩;have hxm:=List.mem_of_getElem? hx;have hib:=(jA (M:=((hs.map KL.n1).map NL.d)) (i:=i) (by rw[List.length_map,List.length_map];omega) hct);refine u1 0 (ix rfl rfl fw iS) ?_;refine u1 0 (aG (cs:=gL x) rfl DI iS (fun j u e=>bQ (hR.sat O) (gM hx j u e))) ?_;refine uF rfl (u3 _ x ((hF x hxm).sat O) (hFm x hxm)) ?_;rintro e w ⟨A60,c60,he,hT⟩;cases h60:aH x.f.d
      ·rw[mx h60,qK h60]at he;subst he;rw[mx h60]at hT;replace O:=O.aM hT;clear hT;refine uO 1 ?_;refine u1 0 (ai rfl rfl) ?_;refine u1 8 (ai rfl rfl) ?_;refine u1 7 (c5 (aD rfl rfl) (by omega)) ?_;have hlc:=qA (M:=((hs.map KL.n1).map NL.d)) (i:=i) (by rw[List.length_map,List.length_map];omega) hct;refine uO 28 ?_;refine fo ?_;exact .inr ⟨Cq (d:=(cn.d1 ⟨self,next,_,kc,hs⟩)) (List.mem_of_getElem? (ik hx)) h60,rfl,O.nil⟩
      ·rw[kM h60,pe h60]at he;subst he;rw[kM h60]at hT;replace O:=O.aM hT;clear hT;have hfx:aH x.f.d=true:=h60;have hsl:=BK (k:=1) (by decide) hfx (hFm x hxm);have hns:=nine (n:=(cC 1 x.f.d).length) (by omega);refine uO 1 ?_;refine u1 0 (ai rfl rfl) ?_;refine u1 8 (ai rfl rfl) ?_;refine u1 1 (dz (aD rfl rfl) (by omega)) ?_;refine u1 0 (aa rfl cN) ?_;refine u1 1 (ld rfl) ?_;refine u1 0 (ix rfl rfl fw iS) ?_;refine u1 0 (aC rfl mu) ?_;refine u1 0 (an rfl dA (bQ (hR.sat O) (gM hx 0 _ rfl))) ?_;have hlc:=qA (M:=((hs.map KL.n1).map NL.d)) (i:=i) (by rw[List.length_map,List.length_map];omega) hct;refine uO 1 ?_;refine aJ 0 0 (dD rfl rfl) ?_ ?_
       ·intro h73;refine uO 26 ?_;refine fo ?_;exact .inr ⟨re (d:=(cn.d1 ⟨self,next,_,kc,hs⟩)) (ik hx) (o6 (by show x.aZ≤jq (ahead none ((hs.map KL.n1).map NL.d) i)∨64≤x.aZ;omega)),rfl,O.nil⟩
       ·intro h73;refine uO 2 ?_;refine u1 0 (aa rfl cN) ?_;refine u1 1 (ld rfl) ?_;refine u1 0 (ix rfl rfl fw iS) ?_;refine u1 0 (aC rfl mu) ?_;refine u1 0 (an rfl dA (bQ (hR.sat O) (gM hx 0 _ rfl))) ?_;refine aJ 0 0 (dF rfl rfl) ?_ ?_
        ·intro h82;refine uO 17 ?_;refine fo ?_;exact .inr ⟨re (d:=(cn.d1 ⟨self,next,_,kc,hs⟩)) (ik hx) (o6 (by show x.aZ≤jq (ahead none ((hs.map KL.n1).map NL.d) i)∨64≤x.aZ;omega)),rfl,O.nil⟩
        ·intro h82;refine uO 8 ?_;have hcf:=xm (ik hx) (by show ¬x.aZ≤jq (ahead none ((hs.map KL.n1).map NL.d) i);omega) (by show ¬64≤x.aZ;omega) hct;have hxc0:0≤x.aZ:=by omega
         refine u1 0 (aa rfl cN) ?_;refine u1 1 (ld rfl) ?_;refine u1 0 (ix rfl rfl fw iS) ?_;refine u1 0 (aC rfl mu) ?_;refine u1 7 (an rfl dA (bQ (hR.sat O) (gM hx 0 _ rfl))) ?_;refine uF rfl (fL _ _ _ Ao co out x.aZ (O.p 1) (by omega) (by omega) (by omega)) ?_;clear O;rintro e w ⟨An92,cn92,rfl,O⟩;have hn92:=nine (n:=x.aZ.toNat) (by omega);refine uO 7 ?_;refine u1 0 (ak rfl bd) ?_;refine uF rfl (jf _ _ _ _ _ _ ((cC 1 x.f.d).length) O (by omega) (by (simp only[List.length_append,List.length_cons,List.length_nil];omega))) ?_;clear O;rintro e w ⟨An96,cn96,rfl,O⟩;have hn96:=nine (n:=(cC 1 x.f.d).length) (by omega);refine uO 9 ?_;intro a I
         refine wp_loop_ghost (fun (mm:Nat) a w=>∃(j:Nat) (ou:List UInt8) (Ai:Option Addr) (ci:Nat),Ag a 121 [(0,.int .i64 1),(3,.pointer (some ⟨b3,0,none⟩)),(6,.slice Ai (ou).length ci),(7,.int .i64 (x.aZ)),(8,.int .i64 ((i:Nat):Int)),(9,.slice A60 ((cC 1 x.f.d)).length c60),(11,.int .i64 ((j:Nat):Int))]∧Sat W w ([row 5 1 (.slice Ai (ou).length ci) (ou).length ((ou).map aj),row 5 1 (.slice A60 ((cC 1 x.f.d)).length c60) ((cC 1 x.f.d)).length (((cC 1 x.f.d)).map aj),a6 b3 (.cells #[.int .i64 self,.int .i64 next,.slice (some ka_p) hs.length kc] 24)])∧(j≤(cC 1 x.f.d).length)∧(ou=(out++aV x.aZ.toNat++aV (cC 1 x.f.d).length)++(cC 1 x.f.d).take j)∧(ou.length=(out++aV x.aZ.toNat++aV (cC 1 x.f.d).length).length+j)∧mm=(cC 1 x.f.d).length-j) (cC 1 x.f.d).length ?_ ?_
         ·replace I:=I.kp [0,3,6,7,8,9,11] rfl;exact⟨0,_,_,_,I,(sJ O),(by omega),(by simp),(by omega),by omega⟩
         intro m a w hI;clear O I;obtain⟨j,ou,Ai,ci,I,O,hj,hoi,hoil,rfl⟩:=hI;refine rC 5 I ?_;clear I a;refine u1 0 (ak rfl bd) ?_;refine aJ 0 0 (aq rfl rfl) ?_ ?_
         ·intro h100;refine uO 11 ?_;obtain⟨A60_p,rfl⟩:∃q,A60=some q:=(O.p 1).rd.au (by omega);obtain⟨y,hy⟩:∃zz_,(cC 1 x.f.d)[j]?=some zz_:=⟨_,List.getElem?_eq_getElem (by omega)⟩;refine u1 0 (ix rfl rfl bd sL) ?_;refine u1 0 (an rfl Az (fP (O.p 1).rd (bu hy))) ?_;intro a I;refine nZ I rfl rfl bd mX rfl rfl rfl (by simp[Value.oneCell',aj]) O ?_;clear I a O;intro A108 w O;intro a I;refine dq I rfl rfl rfl bd mX rfl (O.p 1) (O.rd.src bd (by simp[Value.oneCell',aj])) (by simp only[List.length_append]at *;omega) (by simp only[List.length_append]at *;omega) ?_;clear I a O;intro A109 c109 w hc109 O;refine uO 6 ?_;refine u1 2 (ad rfl rfl) ?_;intro a I;replace I:=I.kp [0,3,6,7,8,9,11] rfl;have e1:(ou).map aj++[aj y]=(ou++[y]).map aj:=by simp
          have e2:(ou).length+1=(ou++[y]).length:=by simp
          rw[e1,e2]at O;rw[e2]at I;clear e1 e2;refine⟨(cC 1 x.f.d).length-(j+1),by omega,j+1,ou++[y],_,_,I,sJ (((O.p 3).p 3).p 2),by omega,?_,by simp only[List.length_append,List.length_cons,List.length_nil]at *;omega,rfl⟩;rw[hoi,aF hy];simp only[List.append_assoc]
         ·intro h100;refine uO 11 ?_;refine u1 2 (ad rfl rfl) ?_;intro a I;replace I:=I.kp [0,3,6,7,8] rfl;have hje:j=(cC 1 x.f.d).length:=by omega
          rw[hje,List.take_length]at hoi;have e6:x.aZ=jq (ahead none ((hs.map KL.n1).map NL.d) (i+1)):=by rw[dJ (ik hx)];rfl
          refine⟨hs.length-(i+1),by omega,i+1,ou,Ai,ci,?_,n5 ((O.p 2).p 1),by omega,?_,?_,?_,?_,rfl⟩
          ·rw[←e6];exact I
          ·rw[hoi,ho,vQ (x:=x.n1) (by rw[List.getElem?_map,hx];rfl)];simp only[List.append_assoc];rfl
          ·exact fun j z hj hz=>(by rcases Nat.lt_or_ge j i with h | h;exact hok j z h hz;obtain rfl:j=i:=(by omega);rw[hx]at hz;cases hz;exact h60)
          ·exact fun j z hj hz=>(by rcases Nat.lt_or_ge j i with h | h;exact hct j z h hz;obtain rfl:j=i:=(by omega);rw[ik hx]at hz;cases hz;exact hcf)
          ·rw[hoi];simp only[List.length_append];have:=Nat.succ_mul i 8000000000;omega
     ·intro h50;refine uO 8 ?_;intro a I;replace I:=I.kp [6] rfl;refine rC 3 I ?_;clear I a;refine uF rfl (sK _ Ao co out O.rd (by have hib:=(jA (M:=((hs.map KL.n1).map NL.d)) (i:=i) (by rw[List.length_map,List.length_map];omega) hct);omega)) ?_;rintro e w ⟨rfl,hT⟩;replace O:Sat _ _ _:=O.ag hT;clear hT;have hslt:=ng out;have hib:=(jA (M:=((hs.map KL.n1).map NL.d)) (i:=i) (by rw[List.length_map,List.length_map];omega) hct);refine uO 1 ?_;refine u1 0 (ai rfl rfl) ?_;refine u1 8 (ai rfl rfl) ?_;refine uF rfl (jN _ _ _ Ao co out (bn out).1 O (by omega) (by omega)) ?_;clear O;rintro e w ⟨A117,c117,rfl,O⟩;refine uO 7 ?_;refine uF rfl (jN _ _ _ _ _ _ (bn out).2 O (by omega) (by simp only[List.length_append,kL];omega)) ?_;clear O;rintro e w ⟨A120,c120,rfl,O⟩;refine uO 5 ?_;refine fo ?_
      have hie:i=hs.length:=by omega
      rw[hie,List.take_of_length_le (by rw[List.length_map];omega)]at ho;have hbd:out=dp 1 (cn.d1 ⟨self,next,ka,kc,hs⟩):=by rw[ho];unfold dp;show dh self.toNat next.toNat hs.length++bq 1 ((hs.map KL.n1).map NL.d)=dh self.toNat next.toNat ((hs.map KL.n1).map NL.d).length++bq 1 ((hs.map KL.n1).map NL.d);rw[List.length_map,List.length_map]
      have hsl:out++cU (bn out).1++cU (bn out).2=fj out:=by unfold fj;rw[List.append_assoc]
      rw[hsl]at O ⊢;subst hbd;refine .inl ⟨sl (tz (d:=(cn.d1 ⟨self,next,ka,kc,hs⟩)) (by show 0≤self;omega) (by show self<16;omega) (by show 0≤next;omega) (by show next≤_;omega) (fun j z hz=>hct j z (by have:=(List.getElem?_eq_some_iff.1 hz).1;simp only[cn.d1,List.length_map]at this;omega) hz)) fun y hy=>?_,_,_,rfl,gy O⟩;have hy:y∈((hs.map KL.n1).map NL.d):=hy;obtain⟨z,hz,rfl⟩:=List.mem_map.1 hy;obtain⟨z2,hz2,rfl⟩:=List.mem_map.1 hz;obtain⟨j,hj⟩:=List.mem_iff_getElem?.1 hz2;exact hok j z2 (by have:=(List.getElem?_eq_some_iff.1 hj).1;omega) hj
theorem wv (W:World)(d:cn)(hp:d.ok W)(hs0:d.small):Calls Tryz.prog 11 #[.int .i64 2,.agg #[.int .i64 d.self,.int .i64 d.next,.slice d.a d.hs.length d.c]] W fun e w'=>(ju bD d.d2=true∧∃A' c',e=.returned (.tuple #[.slice A' (dB 2 d.d2).length c',.int .i64 0])∧Sat W w' [row 5 1 (.slice A' (dB 2 d.d2).length c') (dB 2 d.d2).length ((dB 2 d.d2).map aj)])∨(ju bD d.d2=false∧e=.returned (.tuple #[.slice none 0 0,.int .i64 1])∧Sat W w' []):=by
 refine bS Tryz.func11 [0,1] ?_;have O:=Sat.start W;obtain⟨self,next,ka,kc,hs⟩:=d;have hR:Rd W 9 (.slice ka hs.length kc) hs.length (hs.flatMap gL):=hp.top;have hF:∀h∈hs,h.f.ok W:=hp.GN;have hSo:∀h∈hs,h.s.ok W:=hp.GQ;have hl:hs.length≤1000000000:=hs0.len;have hFm:∀h∈hs,kQ h.f:=hs0.GP;have hSm:∀h∈hs,kQ h.s:=hs0.GF;intro a I;dsimp only at I ⊢;refine rC 2 I ?_;clear I a;refine uB rfl O ?_;clear O;intro b3 w O;refine uO 7 ?_;refine u1 0 (aa rfl kl) ?_;refine u1 0 (ld rfl) ?_;refine aJ 0 0 (aq rfl rfl) ?_ ?_
 ·intro h16;refine uO 26 ?_;refine fo ?_;exact .inr ⟨eJ (fm (d:=(cn.d2 ⟨self,next,ka,kc,hs⟩)) (by show self<0∨16≤self∨next<0∨4611686018427387904<next;omega)),rfl,O.nil⟩
 ·intro h16;refine uO 1 ?_;refine u1 0 (aa rfl kl) ?_;refine u1 0 (ld rfl) ?_;refine aJ 0 0 (dF rfl rfl) ?_ ?_
  ·intro h20;refine uO 22 ?_;refine fo ?_;exact .inr ⟨eJ (fm (d:=(cn.d2 ⟨self,next,ka,kc,hs⟩)) (by show self<0∨16≤self∨next<0∨4611686018427387904<next;omega)),rfl,O.nil⟩
  ·intro h20;refine uO 2 ?_;refine u1 0 (aa rfl km) ?_;refine u1 0 (ld rfl) ?_;refine aJ 0 0 (aq rfl rfl) ?_ ?_
   ·intro h25;refine uO 17 ?_;refine fo ?_;exact .inr ⟨eJ (fm (d:=(cn.d2 ⟨self,next,ka,kc,hs⟩)) (by show self<0∨16≤self∨next<0∨4611686018427387904<next;omega)),rfl,O.nil⟩
   ·intro h25;refine uO 2 ?_;refine u1 0 (aa rfl km) ?_;refine u1 0 (ld rfl) ?_;refine aJ 0 0 (cG rfl rfl) ?_ ?_
    ·intro h30;refine uO 12 ?_;refine fo ?_;exact .inr ⟨eJ (fm (d:=(cn.d2 ⟨self,next,ka,kc,hs⟩)) (by show self<0∨16≤self∨next<0∨4611686018427387904<next;omega)),rfl,O.nil⟩
    ·intro h30;refine uO 8 ?_;intro a I;refine nZ I rfl rfl bd mX rfl rfl rfl (by simp[Value.oneCell']) O ?_;clear I a O;intro A32 w O;refine uO 5 ?_;intro a I;change Sat W w (row 5 1 (.slice A32 ([3]).length 1) ([3]).length (([3]).map aj)::_) at O;have hfs0:0≤self:=by omega
     have hfn0:0≤next:=by omega
     obtain⟨sf,hsf⟩:=Int.eq_ofNat_of_zero_le hfs0;obtain⟨nx,hnx⟩:=Int.eq_ofNat_of_zero_le hfn0;have hst:self.toNat=sf:=by omega
     have hnt:next.toNat=nx:=by omega
     refine rO 1 I ?_;clear I a;refine u1 0 (aa rfl kl) ?_;refine u1 0 (ld rfl) ?_;refine uF rfl (fL _ _ _ A32 1 [3] self O (by omega) (by omega) (by simp)) ?_;clear O;rintro e w ⟨An36,cn36,rfl,O⟩;have hn36:=nine (n:=self.toNat) (by omega);refine uO 3 ?_;intro a I;replace I:=I.kp [0,3,4,5,6] rfl;refine rC 3 I ?_;clear I a;refine u1 0 (aa rfl km) ?_;refine u1 0 (ld rfl) ?_;refine uF rfl (fL _ _ _ _ _ _ next O (by omega) (by omega) (by simp only[List.length_append,List.length_cons,List.length_nil];omega)) ?_;clear O;rintro e w ⟨An40,cn40,rfl,O⟩;have hn40:=nine (n:=next.toNat) (by omega);refine uO 6 ?_;refine u1 0 (aa rfl cN) ?_;refine u1 0 (ld rfl) ?_;refine u1 0 (ak rfl fw) ?_
     refine uF rfl (jf _ _ _ _ _ _ (hs.length) O (by omega) (by (simp only[List.length_append,List.length_cons,List.length_nil];omega))) ?_;clear O;rintro e w ⟨An45,cn45,rfl,O⟩;have hn45:=nine (n:=hs.length) (by omega);refine uO 15 ?_;intro a I
     refine wp_loop_ghost (fun (mm:Nat) a w=>∃(i:Nat) (out:List UInt8) (Ao:Option Addr) (co:Nat),Ag a 121 [(0,.int .i64 2),(3,.pointer (some ⟨b3,0,none⟩)),(6,.slice Ao (out).length co),(7,.int .i64 ((jq (ahead none ((hs.map KL.n2).map NL.d) i)))),(8,.int .i64 ((i:Nat):Int))]∧Sat W w ([row 5 1 (.slice Ao (out).length co) (out).length ((out).map aj),a6 b3 (.cells #[.int .i64 self,.int .i64 next,.slice ka hs.length kc] 24)])∧(i≤hs.length)∧(out=dh self.toNat next.toNat hs.length++bq 2 (((hs.map KL.n2).take i).map NL.d))∧(∀j z,j<i→hs[j]?=some z→bD z.s.d=true)∧(∀j z,j<i→((hs.map KL.n2).map NL.d)[j]?=some z→cO (ahead none ((hs.map KL.n2).map NL.d) j) z=true)∧(out.length≤40+i * 8000000000)∧mm=hs.length-i) hs.length ?_ ?_
     ·replace I:=I.kp [0,3,6,7,8] rfl;exact⟨0,_,_,_,I,(n5 O),(by omega),(by rw[show ([3]:List UInt8)=aV 3 from by rw[ey (by decide)];rfl];simp[dh,bq]),(by intro j z hj;omega),(by intro j z hj;omega),(by simp only[List.length_append,List.length_cons,List.length_nil];omega),by omega⟩
     intro m a w hI;clear O I;obtain⟨i,out,Ao,co,I,O,hi,ho,hok,hct,hol,rfl⟩:=hI;refine rC 4 I ?_;clear I a;refine u1 0 (aa rfl cN) ?_;refine u1 0 (ld rfl) ?_;refine u1 0 (ak rfl fw) ?_;refine aJ 0 0 (aq rfl rfl) ?_ ?_
     ·intro h50;refine uO 10 ?_;refine u1 0 (aa rfl cN) ?_;refine u1 1 (ld rfl) ?_;obtain⟨ka_p,rfl⟩:∃q,ka=some q:=(hR.sat O).au (by omega);obtain⟨x,hx⟩:∃zz_,hs[i]?=some zz_:=⟨_,List.getElem?_eq_getElem (by omega)⟩;have hxm:=List.mem_of_getElem? hx;have hib:=(jA (M:=((hs.map KL.n2).map NL.d)) (i:=i) (by rw[List.length_map,List.length_map];omega) hct);refine u1 0 (ix rfl rfl fw iS) ?_;refine u1 0 (aG (cs:=gL x) rfl DI iS (fun j u e=>bQ (hR.sat O) (gM hx j u e))) ?_;refine uF rfl (u7 _ x ((hSo x hxm).sat O) (hSm x hxm)) ?_;rintro e w ⟨A60,c60,he,hT⟩;cases h60:bD x.s.d
      ·rw[mx h60,qK h60]at he;subst he;rw[mx h60]at hT;replace O:=O.aM hT;clear hT;refine uO 1 ?_;refine u1 0 (ai rfl rfl) ?_;refine u1 8 (ai rfl rfl) ?_;refine u1 7 (c5 (aD rfl rfl) (by omega)) ?_;have hlc:=qA (M:=((hs.map KL.n2).map NL.d)) (i:=i) (by rw[List.length_map,List.length_map];omega) hct;refine uO 28 ?_;refine fo ?_;exact .inr ⟨Cq (d:=(cn.d2 ⟨self,next,_,kc,hs⟩)) (List.mem_of_getElem? (ic hx)) h60,rfl,O.nil⟩
      ·rw[kM h60,pe h60]at he;subst he;rw[kM h60]at hT;replace O:=O.aM hT;clear hT;have hfx:aH x.s.d=true:=cT h60;have hsl:=BK (k:=2) (by decide) hfx (hSm x hxm);have hns:=nine (n:=(cC 2 x.s.d).length) (by omega);refine uO 1 ?_;refine u1 0 (ai rfl rfl) ?_;refine u1 8 (ai rfl rfl) ?_;refine u1 1 (dz (aD rfl rfl) (by omega)) ?_;refine u1 0 (aa rfl cN) ?_;refine u1 1 (ld rfl) ?_;refine u1 0 (ix rfl rfl fw iS) ?_;refine u1 0 (aC rfl mu) ?_;refine u1 0 (an rfl dA (bQ (hR.sat O) (gM hx 0 _ rfl))) ?_;have hlc:=qA (M:=((hs.map KL.n2).map NL.d)) (i:=i) (by rw[List.length_map,List.length_map];omega) hct;refine uO 1 ?_;refine aJ 0 0 (dD rfl rfl) ?_ ?_
       ·intro h73;refine uO 26 ?_;refine fo ?_;exact .inr ⟨re (d:=(cn.d2 ⟨self,next,_,kc,hs⟩)) (ic hx) (o6 (by show x.aZ≤jq (ahead none ((hs.map KL.n2).map NL.d) i)∨64≤x.aZ;omega)),rfl,O.nil⟩
       ·intro h73;refine uO 2 ?_;refine u1 0 (aa rfl cN) ?_;refine u1 1 (ld rfl) ?_;refine u1 0 (ix rfl rfl fw iS) ?_;refine u1 0 (aC rfl mu) ?_;refine u1 0 (an rfl dA (bQ (hR.sat O) (gM hx 0 _ rfl))) ?_;refine aJ 0 0 (dF rfl rfl) ?_ ?_
        ·intro h82;refine uO 17 ?_;refine fo ?_;exact .inr ⟨re (d:=(cn.d2 ⟨self,next,_,kc,hs⟩)) (ic hx) (o6 (by show x.aZ≤jq (ahead none ((hs.map KL.n2).map NL.d) i)∨64≤x.aZ;omega)),rfl,O.nil⟩
        ·intro h82;refine uO 8 ?_;have hcf:=xm (ic hx) (by show ¬x.aZ≤jq (ahead none ((hs.map KL.n2).map NL.d) i);omega) (by show ¬64≤x.aZ;omega) hct;have hxc0:0≤x.aZ:=by omega
         refine u1 0 (aa rfl cN) ?_;refine u1 1 (ld rfl) ?_;refine u1 0 (ix rfl rfl fw iS) ?_;refine u1 0 (aC rfl mu) ?_;refine u1 7 (an rfl dA (bQ (hR.sat O) (gM hx 0 _ rfl))) ?_;refine uF rfl (fL _ _ _ Ao co out x.aZ (O.p 1) (by omega) (by omega) (by omega)) ?_;clear O;rintro e w ⟨An92,cn92,rfl,O⟩;have hn92:=nine (n:=x.aZ.toNat) (by omega);refine uO 7 ?_;refine u1 0 (ak rfl bd) ?_;refine uF rfl (jf _ _ _ _ _ _ ((cC 2 x.s.d).length) O (by omega) (by (simp only[List.length_append,List.length_cons,List.length_nil];omega))) ?_;clear O;rintro e w ⟨An96,cn96,rfl,O⟩;have hn96:=nine (n:=(cC 2 x.s.d).length) (by omega);refine uO 9 ?_;intro a I
         refine wp_loop_ghost (fun (mm:Nat) a w=>∃(j:Nat) (ou:List UInt8) (Ai:Option Addr) (ci:Nat),Ag a 121 [(0,.int .i64 2),(3,.pointer (some ⟨b3,0,none⟩)),(6,.slice Ai (ou).length ci),(7,.int .i64 (x.aZ)),(8,.int .i64 ((i:Nat):Int)),(9,.slice A60 ((cC 2 x.s.d)).length c60),(11,.int .i64 ((j:Nat):Int))]∧Sat W w ([row 5 1 (.slice Ai (ou).length ci) (ou).length ((ou).map aj),row 5 1 (.slice A60 ((cC 2 x.s.d)).length c60) ((cC 2 x.s.d)).length (((cC 2 x.s.d)).map aj),a6 b3 (.cells #[.int .i64 self,.int .i64 next,.slice (some ka_p) hs.length kc] 24)])∧(j≤(cC 2 x.s.d).length)∧(ou=(out++aV x.aZ.toNat++aV (cC 2 x.s.d).length)++(cC 2 x.s.d).take j)∧(ou.length=(out++aV x.aZ.toNat++aV (cC 2 x.s.d).length).length+j)∧mm=(cC 2 x.s.d).length-j) (cC 2 x.s.d).length ?_ ?_
         ·replace I:=I.kp [0,3,6,7,8,9,11] rfl;exact⟨0,_,_,_,I,(sJ O),(by omega),(by simp),(by omega),by omega⟩
         intro m a w hI;clear O I;obtain⟨j,ou,Ai,ci,I,O,hj,hoi,hoil,rfl⟩:=hI;refine rC 5 I ?_;clear I a;refine u1 0 (ak rfl bd) ?_;refine aJ 0 0 (aq rfl rfl) ?_ ?_
         ·intro h100;refine uO 11 ?_;obtain⟨A60_p,rfl⟩:∃q,A60=some q:=(O.p 1).rd.au (by omega);obtain⟨y,hy⟩:∃zz_,(cC 2 x.s.d)[j]?=some zz_:=⟨_,List.getElem?_eq_getElem (by omega)⟩;refine u1 0 (ix rfl rfl bd sL) ?_;refine u1 0 (an rfl Az (fP (O.p 1).rd (bu hy))) ?_;intro a I;refine nZ I rfl rfl bd mX rfl rfl rfl (by simp[Value.oneCell',aj]) O ?_;clear I a O;intro A108 w O;intro a I;refine dq I rfl rfl rfl bd mX rfl (O.p 1) (O.rd.src bd (by simp[Value.oneCell',aj])) (by simp only[List.length_append]at *;omega) (by simp only[List.length_append]at *;omega) ?_;clear I a O;intro A109 c109 w hc109 O;refine uO 6 ?_;refine u1 2 (ad rfl rfl) ?_;intro a I;replace I:=I.kp [0,3,6,7,8,9,11] rfl;have e1:(ou).map aj++[aj y]=(ou++[y]).map aj:=by simp
          have e2:(ou).length+1=(ou++[y]).length:=by simp
          rw[e1,e2]at O;rw[e2]at I;clear e1 e2;refine⟨(cC 2 x.s.d).length-(j+1),by omega,j+1,ou++[y],_,_,I,sJ (((O.p 3).p 3).p 2),by omega,?_,by simp only[List.length_append,List.length_cons,List.length_nil]at *;omega,rfl⟩;rw[hoi,aF hy];simp only[List.append_assoc]
         ·intro h100;refine uO 11 ?_;refine u1 2 (ad rfl rfl) ?_;intro a I;replace I:=I.kp [0,3,6,7,8] rfl;have hje:j=(cC 2 x.s.d).length:=by omega
          rw[hje,List.take_length]at hoi;have e6:x.aZ=jq (ahead none ((hs.map KL.n2).map NL.d) (i+1)):=by rw[dJ (ic hx)];rfl
          refine⟨hs.length-(i+1),by omega,i+1,ou,Ai,ci,?_,n5 ((O.p 2).p 1),by omega,?_,?_,?_,?_,rfl⟩
          ·rw[←e6];exact I
          ·rw[hoi,ho,vQ (x:=x.n2) (by rw[List.getElem?_map,hx];rfl)];simp only[List.append_assoc];rfl
          ·exact fun j z hj hz=>(by rcases Nat.lt_or_ge j i with h | h;exact hok j z h hz;obtain rfl:j=i:=(by omega);rw[hx]at hz;cases hz;exact h60)
          ·exact fun j z hj hz=>(by rcases Nat.lt_or_ge j i with h | h;exact hct j z h hz;obtain rfl:j=i:=(by omega);rw[ic hx]at hz;cases hz;exact hcf)
          ·rw[hoi];simp only[List.length_append];have:=Nat.succ_mul i 8000000000;omega
     ·intro h50;refine uO 8 ?_;intro a I;replace I:=I.kp [6] rfl;refine rC 3 I ?_;clear I a;refine uF rfl (sK _ Ao co out O.rd (by have hib:=(jA (M:=((hs.map KL.n2).map NL.d)) (i:=i) (by rw[List.length_map,List.length_map];omega) hct);omega)) ?_;rintro e w ⟨rfl,hT⟩;replace O:Sat _ _ _:=O.ag hT;clear hT;have hslt:=ng out;have hib:=(jA (M:=((hs.map KL.n2).map NL.d)) (i:=i) (by rw[List.length_map,List.length_map];omega) hct);refine uO 1 ?_;refine u1 0 (ai rfl rfl) ?_;refine u1 8 (ai rfl rfl) ?_;refine uF rfl (jN _ _ _ Ao co out (bn out).1 O (by omega) (by omega)) ?_;clear O;rintro e w ⟨A117,c117,rfl,O⟩;refine uO 7 ?_;refine uF rfl (jN _ _ _ _ _ _ (bn out).2 O (by omega) (by simp only[List.length_append,kL];omega)) ?_;clear O;rintro e w ⟨A120,c120,rfl,O⟩;refine uO 5 ?_;refine fo ?_
      have hie:i=hs.length:=by omega
      rw[hie,List.take_of_length_le (by rw[List.length_map];omega)]at ho;have hbd:out=dp 2 (cn.d2 ⟨self,next,ka,kc,hs⟩):=by rw[ho];unfold dp;show dh self.toNat next.toNat hs.length++bq 2 ((hs.map KL.n2).map NL.d)=dh self.toNat next.toNat ((hs.map KL.n2).map NL.d).length++bq 2 ((hs.map KL.n2).map NL.d);rw[List.length_map,List.length_map]
      have hsl:out++cU (bn out).1++cU (bn out).2=fj out:=by unfold fj;rw[List.append_assoc]
      rw[hsl]at O ⊢;subst hbd;refine .inl ⟨sl (tz (d:=(cn.d2 ⟨self,next,ka,kc,hs⟩)) (by show 0≤self;omega) (by show self<16;omega) (by show 0≤next;omega) (by show next≤_;omega) (fun j z hz=>hct j z (by have:=(List.getElem?_eq_some_iff.1 hz).1;simp only[cn.d2,List.length_map]at this;omega) hz)) fun y hy=>?_,_,_,rfl,gy O⟩;have hy:y∈((hs.map KL.n2).map NL.d):=hy;obtain⟨z,hz,rfl⟩:=List.mem_map.1 hy;obtain⟨z2,hz2,rfl⟩:=List.mem_map.1 hz;obtain⟨j,hj⟩:=List.mem_iff_getElem?.1 hz2;exact hok j z2 (by have:=(List.getElem?_eq_some_iff.1 hj).1;omega) hj
theorem E3 {a b:nX}(h1:a.aZ=b.aZ)(h2:a.st=b.st):a=b:=by
 cases a;cases b;simp only at h1 h2;subst h1 h2;rfl
theorem CH {d d':dT}(h1:d.self=d'.self)(h2:d.next=d'.next)(h3:d.hs.length=d'.hs.length)(h4:∀(j:Nat) (u v:nX),d.hs[j]?=some u→d'.hs[j]?=some v→u=v):d=d':=by
 have h5:d.hs=d'.hs:=wM h3 fun j hj=>by
  have hv:d'.hs[j]?=some (d'.hs[j]'(by omega)):=List.getElem?_eq_getElem (by omega);rw[hv,List.getElem?_eq_getElem hj,h4 j _ _ (List.getElem?_eq_getElem hj) hv]
 cases d;cases d';simp only at h1 h2 h5;subst h1 h2 h5;rfl
theorem kg (W:World)(d g:cn)(hp:d.ok W)(hs0:d.small)(gp:g.ok W)(gs0:g.small):Calls Tryz.prog 16 #[.int .i64 1,.agg #[.int .i64 d.self,.int .i64 d.next,.slice d.a d.hs.length d.c],.agg #[.int .i64 g.self,.int .i64 g.next,.slice g.a g.hs.length g.c]] W fun e w'=>e=.returned (.bool (decide (d.d1=g.d1)))∧Sat W w' []:=by
 refine bS Tryz.func16 [0,1,2] ?_;have O:=Sat.start W;obtain⟨us,un,xa,xc,hs⟩:=d;obtain⟨vs,vn,ya,yc,gs⟩:=g;have hR:Rd W 9 (.slice xa hs.length xc) hs.length (hs.flatMap gL):=hp.top;have hQ:Rd W 9 (.slice ya gs.length yc) gs.length (gs.flatMap gL):=gp.top;have hFx:∀h∈hs,h.f.ok W:=hp.GN;have hFy:∀h∈gs,h.f.ok W:=gp.GN;have hMx:∀h∈hs,kQ h.f:=hs0.GP;have hMy:∀h∈gs,kQ h.f:=gs0.GP;have hlx:hs.length≤1000000000:=hs0.len;have hly:gs.length≤1000000000:=gs0.len;intro a I;dsimp only at I ⊢;refine rC 2 I ?_;clear I a;refine uB rfl O ?_;clear O;intro b4 w O;refine uB rfl O ?_;clear O;intro b5 w O;refine uO 6 ?_;refine u1 0 (aa rfl kl) ?_;refine u1 0 (ld rfl) ?_;refine u1 0 (aa rfl kl) ?_;refine u1 0 (ld rfl) ?_;refine aJ 0 0 (aD rfl rfl) ?_ ?_
 ·intro h12;refine uO 26 ?_;refine aY ?_;rw[decide_eq_false fun (e:cn.d1 ⟨us,un,_,xc,hs⟩=cn.d1 ⟨vs,vn,_,yc,gs⟩)=>(by have h1:us=vs:=congrArg dT.self e;omega)];exact⟨rfl,O.nil⟩
 ·intro h12;refine uO 1 ?_;refine u1 0 (aa rfl km) ?_;refine u1 0 (ld rfl) ?_;refine u1 0 (aa rfl km) ?_;refine u1 0 (ld rfl) ?_;refine aJ 0 0 (aD rfl rfl) ?_ ?_
  ·intro h18;refine uO 20 ?_;refine aY ?_;rw[decide_eq_false fun (e:cn.d1 ⟨us,un,_,xc,hs⟩=cn.d1 ⟨vs,vn,_,yc,gs⟩)=>(by have h1:un=vn:=congrArg dT.next e;omega)];exact⟨rfl,O.nil⟩
  ·intro h18;refine uO 2 ?_;refine u1 0 (aa rfl cN) ?_;refine u1 0 (ld rfl) ?_;refine u1 0 (ak rfl fw) ?_;refine u1 0 (aa rfl cN) ?_;refine u1 0 (ld rfl) ?_;refine u1 0 (ak rfl fw) ?_;refine aJ 0 0 (aD rfl rfl) ?_ ?_
   ·intro h27;refine uO 11 ?_;refine aY ?_;rw[decide_eq_false fun (e:cn.d1 ⟨us,un,_,xc,hs⟩=cn.d1 ⟨vs,vn,_,yc,gs⟩)=>(by have h1:=congrArg (fun d:dT=>d.hs.length) e;simp only[cn.d1,List.length_map]at h1;omega)];exact⟨rfl,O.nil⟩
   ·intro h27;refine uO 13 ?_;intro a I;refine wp_loop_ghost (fun (mm:Nat) a w=>∃(i:Nat),Ag a 85 [(0,.int .i64 1),(4,.pointer (some ⟨b4,0,none⟩)),(5,.pointer (some ⟨b5,0,none⟩)),(7,.int .i64 ((i:Nat):Int))]∧Sat W w ([a6 b5 (.cells #[.int .i64 vs,.int .i64 vn,.slice ya gs.length yc] 24),a6 b4 (.cells #[.int .i64 us,.int .i64 un,.slice xa hs.length xc] 24)])∧(i≤hs.length)∧(∀j u v,j<i→((hs.map KL.n1).map NL.d)[j]?=some u→((gs.map KL.n1).map NL.d)[j]?=some v→u=v)∧mm=hs.length-i) hs.length ?_ ?_
    ·replace I:=I.kp [0,4,5,7] rfl;exact⟨0,I,O,(by omega),(by intro j u v hj;omega),by omega⟩
    intro m a w hI;clear O I;obtain⟨i,I,O,hi,he,rfl⟩:=hI;refine rC 4 I ?_;clear I a;refine u1 0 (aa rfl cN) ?_;refine u1 0 (ld rfl) ?_;refine u1 0 (ak rfl fw) ?_;refine aJ 0 0 (aq rfl rfl) ?_ ?_
    ·intro h33;refine uO 9 ?_;intro a I;refine cF (fun w'=>Sat _ w' _) (by kernel_rfl) (by kernel_rfl) O.drew ?_;refine Q1 0 I (fun w O=>(aa (I.ev rfl) cN)) ?_;clear I a;refine bj 1 (fun w O=>(ld rfl)) ?_;obtain⟨xa_p,rfl⟩:∃q,xa=some q:=(hR.sat O).au (by omega);obtain⟨x,hx⟩:∃zz_,hs[i]?=some zz_:=⟨_,List.getElem?_eq_getElem (by omega)⟩;refine bj 0 (fun w O=>(ix rfl rfl fw iS)) ?_;refine bj 0 (fun w O=>(aC rfl mu)) ?_;refine bj 0 (fun w O=>(an rfl dA (bQ (hR.sat O) (gM hx 0 _ rfl)))) ?_;refine bj 0 (fun w O=>(aa rfl cN)) ?_;refine bj 1 (fun w O=>(ld rfl)) ?_;obtain⟨ya_p,rfl⟩:∃q,ya=some q:=(hQ.sat O).au (by omega);obtain⟨y,hy⟩:∃zz_,gs[i]?=some zz_:=⟨_,List.getElem?_eq_getElem (by omega)⟩
     refine bj 0 (fun w O=>(ix rfl rfl fw iS)) ?_;refine bj 0 (fun w O=>(aC rfl mu)) ?_;refine bj 0 (fun w O=>(an rfl dA (bQ (hQ.sat O) (gM hy 0 _ rfl)))) ?_;intro a I;refine K.sE I rfl rfl rfl (fun w O=>(aD (I.ev rfl) (I.ev rfl))) ?_ ?_
     ·clear I a;intro h48;intro a I;refine wpQuiet_nil ?_;clear O;intro w O;refine rE 14 I ?_;clear I a;refine aY ?_;rw[decide_eq_false fun (e:cn.d1 ⟨us,un,_,xc,hs⟩=cn.d1 ⟨vs,vn,_,yc,gs⟩)=>(by have h1:((hs.map KL.n1).map NL.d)[i]?=((gs.map KL.n1).map NL.d)[i]?:=congrArg (fun d:dT=>d.hs[i]?) e;rw[ik hx,ik hy]at h1;have h2:x.aZ=y.aZ:=congrArg nX.aZ (Option.some.inj h1);omega)];exact⟨rfl,O.nil⟩
     ·clear I a;intro h48;intro a I;refine wpQuiet_nil ?_;clear O;intro w O;refine rE 6 I ?_;clear I a;intro a I;refine bf [15] O (by kernel_rfl) ?_;replace O:=O.drew;refine rX [0] I ?_;clear I a;refine bF 1 [2] rfl (fun w=>(c5 (aU rfl rfl) (by omega))) ?_;refine bF 3 [] rfl (fun w=>(aa rfl cN)) ?_;refine cZ 4 [5] rfl (by exact⟨[],O⟩) (fun w hT=>have O:=hT.sat;(ld rfl)) ?_;refine bF 6 [] rfl (fun w=>(ix rfl rfl fw iS)) ?_;refine bF 7 [] rfl (fun w=>(aC rfl Bz)) ?_;intro a I;refine X1 8 [] I rfl (by exact⟨[],O⟩) (fun w hT=>have O:=hT.sat;(aG (cs:=[.slice x.f.e.a x.f.e.es.length x.f.e.c,.slice x.f.p.va x.f.p.d.vec.length x.f.p.vc,.slice x.f.p.ca x.f.p.d.ab.length x.f.p.cc,.slice x.f.r.a x.f.r.rs.length x.f.r.c]) (I.ev rfl) vw gK (fun j u e=>me (hR.sat O) (gM hx _ u (Ih x j u e))))) ?_;clear I a
      refine bF 9 [] rfl (fun w=>(aa rfl cN)) ?_;refine cZ 10 [11] rfl (by exact⟨[],O⟩) (fun w hT=>have O:=hT.sat;(ld rfl)) ?_;refine bF 12 [] rfl (fun w=>(ix rfl rfl fw iS)) ?_;refine bF 13 [] rfl (fun w=>(aC rfl Bz)) ?_;intro a I;refine X1 14 [] I rfl (by exact⟨[],O⟩) (fun w hT=>have O:=hT.sat;(aG (cs:=[.slice y.f.e.a y.f.e.es.length y.f.e.c,.slice y.f.p.va y.f.p.d.vec.length y.f.p.vc,.slice y.f.p.ca y.f.p.d.ab.length y.f.p.cc,.slice y.f.r.a y.f.r.rs.length y.f.r.c]) (I.ev rfl) vw gK (fun j u e=>me (hQ.sat O) (gM hy _ u (Ih y j u e))))) ?_;clear I a;intro a I;refine aE 15 (by kernel_rfl) ?_
      refine Fb I rfl (aT I rfl rfl rfl) rfl JE rfl (pO _ x.f y.f ((hFx x (List.mem_of_getElem? hx)).sat O) (hMx x (List.mem_of_getElem? hx)) ((hFy y (List.mem_of_getElem? hy)).sat O) (hMy y (List.mem_of_getElem? hy))) ?_;clear I a;rintro e w ⟨rfl,hT⟩;replace O:Sat _ _ _:=O.ag hT;clear hT;by_cases h64:x.f.d=y.f.d
      ·rw[decide_eq_true h64];refine⟨_,rfl,?_⟩;intro a I;refine⟨.inl rfl,?_⟩;refine P1 16 [17] I rfl (fun w=>(aB (I.ev rfl))) ?_;clear I a;intro a I;refine ah (by kernel_rfl) ?_ _;refine rE 5 I ?_;clear I a;intro a I;refine bf [15] O (by kernel_rfl) ?_;replace O:=O.drew;refine rX [0] I ?_;clear I a;refine bF 1 [2,3,4,5,6,7,8,9,10,11,12,13,14,15,16,17] rfl (fun w=>(dz (aU rfl rfl) (by omega))) ?_;intro a I;refine ah (by kernel_rfl) ?_ _;refine rE 7 I ?_;clear I a;refine u1 2 (ad rfl rfl) ?_;intro a I;replace I:=I.kp [0,4,5,7] rfl;have hcc:x.aZ=y.aZ:=by omega
       have hnn:x.n1.d=y.n1.d:=E3 hcc h64;exact⟨hs.length-(i+1),by omega,i+1,I,O,by omega,fun j u v hj hu hv=>(by rcases Nat.lt_or_ge j i with h | h;exact he j u v h hu hv;obtain rfl:j=i:=(by omega);rw[ik hx]at hu;rw[ik hy]at hv;cases hu;cases hv;exact hnn),rfl⟩
      ·rw[decide_eq_false h64];refine⟨_,rfl,?_⟩;intro a I;refine⟨.inl rfl,?_⟩;refine P1 16 [17] I rfl (fun w=>(aB (I.ev rfl))) ?_;clear I a;intro a I;refine ah (by kernel_rfl) ?_ _;refine rE 14 I ?_;clear I a;refine aY ?_;rw[decide_eq_false fun (e:cn.d1 ⟨us,un,_,xc,hs⟩=cn.d1 ⟨vs,vn,_,yc,gs⟩)=>(by have h1:((hs.map KL.n1).map NL.d)[i]?=((gs.map KL.n1).map NL.d)[i]?:=congrArg (fun d:dT=>d.hs[i]?) e;rw[ik hx,ik hy]at h1;have h2:x.f.d=y.f.d:=congrArg nX.st (Option.some.inj h1);exact h64 h2)];exact⟨rfl,O.nil⟩
    ·intro h33;refine uO 8 ?_;intro a I;replace I:=I.kp [] rfl;refine rC 6 I ?_;clear I a;refine aY ?_;rw[decide_eq_true (CH (d:=cn.d1 ⟨us,un,xa,xc,hs⟩) (d':=cn.d1 ⟨vs,vn,ya,yc,gs⟩) (by show us=vs;omega) (by show un=vn;omega) (by show ((hs.map KL.n1).map NL.d).length=((gs.map KL.n1).map NL.d).length;simp only[List.length_map];omega) (fun j u v hu hv=>he j u v (by have:=(List.getElem?_eq_some_iff.1 hu).1;simp only[cn.d1,List.length_map]at this;omega) hu hv))];exact⟨rfl,O.nil⟩
theorem fH (W:World)(d g:cn)(hp:d.ok W)(hs0:d.small)(gp:g.ok W)(gs0:g.small):Calls Tryz.prog 16 #[.int .i64 2,.agg #[.int .i64 d.self,.int .i64 d.next,.slice d.a d.hs.length d.c],.agg #[.int .i64 g.self,.int .i64 g.next,.slice g.a g.hs.length g.c]] W fun e w'=>e=.returned (.bool (decide (d.d2=g.d2)))∧Sat W w' []:=by
 refine bS Tryz.func16 [0,1,2] ?_;have O:=Sat.start W;obtain⟨us,un,xa,xc,hs⟩:=d;obtain⟨vs,vn,ya,yc,gs⟩:=g;have hR:Rd W 9 (.slice xa hs.length xc) hs.length (hs.flatMap gL):=hp.top;have hQ:Rd W 9 (.slice ya gs.length yc) gs.length (gs.flatMap gL):=gp.top;have hFx:∀h∈hs,h.s.ok W:=hp.GQ;have hFy:∀h∈gs,h.s.ok W:=gp.GQ;have hMx:∀h∈hs,kQ h.s:=hs0.GF;have hMy:∀h∈gs,kQ h.s:=gs0.GF;have hlx:hs.length≤1000000000:=hs0.len;have hly:gs.length≤1000000000:=gs0.len;intro a I;dsimp only at I ⊢;refine rC 2 I ?_;clear I a;refine uB rfl O ?_;clear O;intro b4 w O;refine uB rfl O ?_;clear O;intro b5 w O;refine uO 6 ?_;refine u1 0 (aa rfl kl) ?_;refine u1 0 (ld rfl) ?_;refine u1 0 (aa rfl kl) ?_;refine u1 0 (ld rfl) ?_;refine aJ 0 0 (aD rfl rfl) ?_ ?_
 ·intro h12;refine uO 26 ?_;refine aY ?_;rw[decide_eq_false fun (e:cn.d2 ⟨us,un,_,xc,hs⟩=cn.d2 ⟨vs,vn,_,yc,gs⟩)=>(by have h1:us=vs:=congrArg dT.self e;omega)];exact⟨rfl,O.nil⟩
 ·intro h12;refine uO 1 ?_;refine u1 0 (aa rfl km) ?_;refine u1 0 (ld rfl) ?_;refine u1 0 (aa rfl km) ?_;refine u1 0 (ld rfl) ?_;refine aJ 0 0 (aD rfl rfl) ?_ ?_
  ·intro h18;refine uO 20 ?_;refine aY ?_;rw[decide_eq_false fun (e:cn.d2 ⟨us,un,_,xc,hs⟩=cn.d2 ⟨vs,vn,_,yc,gs⟩)=>(by have h1:un=vn:=congrArg dT.next e;omega)];exact⟨rfl,O.nil⟩
  ·intro h18;refine uO 2 ?_;refine u1 0 (aa rfl cN) ?_;refine u1 0 (ld rfl) ?_;refine u1 0 (ak rfl fw) ?_;refine u1 0 (aa rfl cN) ?_;refine u1 0 (ld rfl) ?_;refine u1 0 (ak rfl fw) ?_;refine aJ 0 0 (aD rfl rfl) ?_ ?_
   ·intro h27;refine uO 11 ?_;refine aY ?_;rw[decide_eq_false fun (e:cn.d2 ⟨us,un,_,xc,hs⟩=cn.d2 ⟨vs,vn,_,yc,gs⟩)=>(by have h1:=congrArg (fun d:dT=>d.hs.length) e;simp only[cn.d2,List.length_map]at h1;omega)];exact⟨rfl,O.nil⟩
   ·intro h27;refine uO 13 ?_;intro a I;refine wp_loop_ghost (fun (mm:Nat) a w=>∃(i:Nat),Ag a 85 [(0,.int .i64 2),(4,.pointer (some ⟨b4,0,none⟩)),(5,.pointer (some ⟨b5,0,none⟩)),(7,.int .i64 ((i:Nat):Int))]∧Sat W w ([a6 b5 (.cells #[.int .i64 vs,.int .i64 vn,.slice ya gs.length yc] 24),a6 b4 (.cells #[.int .i64 us,.int .i64 un,.slice xa hs.length xc] 24)])∧(i≤hs.length)∧(∀j u v,j<i→((hs.map KL.n2).map NL.d)[j]?=some u→((gs.map KL.n2).map NL.d)[j]?=some v→u=v)∧mm=hs.length-i) hs.length ?_ ?_
    ·replace I:=I.kp [0,4,5,7] rfl;exact⟨0,I,O,(by omega),(by intro j u v hj;omega),by omega⟩
    intro m a w hI;clear O I;obtain⟨i,I,O,hi,he,rfl⟩:=hI;refine rC 4 I ?_;clear I a;refine u1 0 (aa rfl cN) ?_;refine u1 0 (ld rfl) ?_;refine u1 0 (ak rfl fw) ?_;refine aJ 0 0 (aq rfl rfl) ?_ ?_
    ·intro h33;refine uO 9 ?_;intro a I;refine cF (fun w'=>Sat _ w' _) (by kernel_rfl) (by kernel_rfl) O.drew ?_;refine Q1 0 I (fun w O=>(aa (I.ev rfl) cN)) ?_;clear I a;refine bj 1 (fun w O=>(ld rfl)) ?_;obtain⟨xa_p,rfl⟩:∃q,xa=some q:=(hR.sat O).au (by omega);obtain⟨x,hx⟩:∃zz_,hs[i]?=some zz_:=⟨_,List.getElem?_eq_getElem (by omega)⟩;refine bj 0 (fun w O=>(ix rfl rfl fw iS)) ?_;refine bj 0 (fun w O=>(aC rfl mu)) ?_;refine bj 0 (fun w O=>(an rfl dA (bQ (hR.sat O) (gM hx 0 _ rfl)))) ?_;refine bj 0 (fun w O=>(aa rfl cN)) ?_;refine bj 1 (fun w O=>(ld rfl)) ?_;obtain⟨ya_p,rfl⟩:∃q,ya=some q:=(hQ.sat O).au (by omega);obtain⟨y,hy⟩:∃zz_,gs[i]?=some zz_:=⟨_,List.getElem?_eq_getElem (by omega)⟩
     refine bj 0 (fun w O=>(ix rfl rfl fw iS)) ?_;refine bj 0 (fun w O=>(aC rfl mu)) ?_;refine bj 0 (fun w O=>(an rfl dA (bQ (hQ.sat O) (gM hy 0 _ rfl)))) ?_;intro a I;refine K.sE I rfl rfl rfl (fun w O=>(aD (I.ev rfl) (I.ev rfl))) ?_ ?_
     ·clear I a;intro h48;intro a I;refine wpQuiet_nil ?_;clear O;intro w O;refine rE 14 I ?_;clear I a;refine aY ?_;rw[decide_eq_false fun (e:cn.d2 ⟨us,un,_,xc,hs⟩=cn.d2 ⟨vs,vn,_,yc,gs⟩)=>(by have h1:((hs.map KL.n2).map NL.d)[i]?=((gs.map KL.n2).map NL.d)[i]?:=congrArg (fun d:dT=>d.hs[i]?) e;rw[ic hx,ic hy]at h1;have h2:x.aZ=y.aZ:=congrArg nX.aZ (Option.some.inj h1);omega)];exact⟨rfl,O.nil⟩
     ·clear I a;intro h48;intro a I;refine wpQuiet_nil ?_;clear O;intro w O;refine rE 6 I ?_;clear I a;intro a I;refine bf [15] O (by kernel_rfl) ?_;replace O:=O.drew;refine rX [0] I ?_;clear I a;refine bF 1 [2,3,4,5,6,7,8,9,10,11,12,13,14,15,16,17] rfl (fun w=>(dz (aU rfl rfl) (by omega))) ?_;intro a I;refine ah (by kernel_rfl) ?_ _;refine rE 5 I ?_;clear I a;intro a I;refine bf [15] O (by kernel_rfl) ?_;replace O:=O.drew;refine rX [0] I ?_;clear I a;refine bF 1 [2] rfl (fun w=>(c5 (aU rfl rfl) (by omega))) ?_;refine bF 3 [] rfl (fun w=>(aa rfl cN)) ?_;refine cZ 4 [5] rfl (by exact⟨[],O⟩) (fun w hT=>have O:=hT.sat;(ld rfl)) ?_;refine bF 6 [] rfl (fun w=>(ix rfl rfl fw iS)) ?_;refine bF 7 [] rfl (fun w=>(aC rfl Bu)) ?_;intro a I
      refine X1 8 [] I rfl (by exact⟨[],O⟩) (fun w hT=>have O:=hT.sat;(aG (cs:=[.slice x.s.e.a x.s.e.es.length x.s.e.c,.slice x.s.p.va x.s.p.d.vec.length x.s.p.vc,.slice x.s.p.ca x.s.p.d.ab.length x.s.p.cc,.slice x.s.r.a x.s.r.rs.length x.s.r.c]) (I.ev rfl) tP ir (fun j u e=>me (hR.sat O) (gM hx _ u (Ic x j u e))))) ?_;clear I a;refine bF 9 [] rfl (fun w=>(aa rfl cN)) ?_;refine cZ 10 [11] rfl (by exact⟨[],O⟩) (fun w hT=>have O:=hT.sat;(ld rfl)) ?_;refine bF 12 [] rfl (fun w=>(ix rfl rfl fw iS)) ?_;refine bF 13 [] rfl (fun w=>(aC rfl Bu)) ?_;intro a I
      refine X1 14 [] I rfl (by exact⟨[],O⟩) (fun w hT=>have O:=hT.sat;(aG (cs:=[.slice y.s.e.a y.s.e.es.length y.s.e.c,.slice y.s.p.va y.s.p.d.vec.length y.s.p.vc,.slice y.s.p.ca y.s.p.d.ab.length y.s.p.cc,.slice y.s.r.a y.s.r.rs.length y.s.r.c]) (I.ev rfl) tP ir (fun j u e=>me (hQ.sat O) (gM hy _ u (Ic y j u e))))) ?_;clear I a;intro a I;refine aE 15 (by kernel_rfl) ?_;refine Fb I rfl (aT I rfl rfl rfl) rfl JJ rfl (tl _ x.s y.s ((hFx x (List.mem_of_getElem? hx)).sat O) (hMx x (List.mem_of_getElem? hx)) ((hFy y (List.mem_of_getElem? hy)).sat O) (hMy y (List.mem_of_getElem? hy))) ?_;clear I a;rintro e w ⟨rfl,hT⟩;replace O:Sat _ _ _:=O.ag hT;clear hT;by_cases h82:x.s.d=y.s.d
      ·rw[decide_eq_true h82];refine⟨_,rfl,?_⟩;intro a I;refine⟨.inl rfl,?_⟩;refine P1 16 [17] I rfl (fun w=>(aB (I.ev rfl))) ?_;clear I a;intro a I;refine ah (by kernel_rfl) ?_ _;refine rE 7 I ?_;clear I a;refine u1 2 (ad rfl rfl) ?_;intro a I;replace I:=I.kp [0,4,5,7] rfl;have hcc:x.aZ=y.aZ:=by omega
       have hnn:x.n2.d=y.n2.d:=E3 hcc h82;exact⟨hs.length-(i+1),by omega,i+1,I,O,by omega,fun j u v hj hu hv=>(by rcases Nat.lt_or_ge j i with h | h;exact he j u v h hu hv;obtain rfl:j=i:=(by omega);rw[ic hx]at hu;rw[ic hy]at hv;cases hu;cases hv;exact hnn),rfl⟩
      ·rw[decide_eq_false h82];refine⟨_,rfl,?_⟩;intro a I;refine⟨.inl rfl,?_⟩;refine P1 16 [17] I rfl (fun w=>(aB (I.ev rfl))) ?_;clear I a;intro a I;refine ah (by kernel_rfl) ?_ _;refine rE 13 I ?_;clear I a;refine aY ?_;rw[decide_eq_false fun (e:cn.d2 ⟨us,un,_,xc,hs⟩=cn.d2 ⟨vs,vn,_,yc,gs⟩)=>(by have h1:((hs.map KL.n2).map NL.d)[i]?=((gs.map KL.n2).map NL.d)[i]?:=congrArg (fun d:dT=>d.hs[i]?) e;rw[ic hx,ic hy]at h1;have h2:x.s.d=y.s.d:=congrArg nX.st (Option.some.inj h1);exact h82 h2)];exact⟨rfl,O.nil⟩
    ·intro h33;refine uO 8 ?_;intro a I;replace I:=I.kp [] rfl;refine rC 6 I ?_;clear I a;refine aY ?_;rw[decide_eq_true (CH (d:=cn.d2 ⟨us,un,xa,xc,hs⟩) (d':=cn.d2 ⟨vs,vn,ya,yc,gs⟩) (by show us=vs;omega) (by show un=vn;omega) (by show ((hs.map KL.n2).map NL.d).length=((gs.map KL.n2).map NL.d).length;simp only[List.length_map];omega) (fun j u v hu hv=>he j u v (by have:=(List.getElem?_eq_some_iff.1 hu).1;simp only[cn.d2,List.length_map]at this;omega) hu hv))];exact⟨rfl,O.nil⟩
theorem Rd.JL {w:World}{sz n c k:Nat}{A:Option Addr}{cs:List Value}(h:Rd w sz (.slice A n c) n cs)(hk:k≤n):Rd w sz (.slice A k c) k (cs.take (k * sz)):=by
 obtain⟨A',c',hv,hc,hl,h⟩:=h
 injection hv with h1 h2 h3
 subst h1 h3;refine⟨A,c,rfl,by omega,?_,?_⟩
 ·
  rw[List.length_take,hl];have:=Nat.mul_le_mul_right sz hk;omega
 ·
  rcases h with h | ⟨p,hp,hh⟩
  ·
   exact .inl (by omega)
  ·
   refine .inr ⟨p,hp,fun j u e=>hh j u ?_⟩;rw[List.getElem?_take]at e
   split at e
   ·
    exact e
   ·
    cases e
theorem ki {w:World}{A:Option Addr}{c:Nat}{bs:List UInt8}{k:Nat}(h:Rd w 1 (.slice A bs.length c) bs.length (bs.map aj)):Rd w 1 (.slice A (bs.take k).length c) (bs.take k).length ((bs.take k).map aj):=by
 have h1:(bs.take k).length≤bs.length:=by rw[List.length_take];omega
 have:=Rd.JL h h1;rw[Nat.mul_one,←List.map_take]at this;rwa[List.take_eq_take_iff.2 (by rw[List.length_take];omega:min (bs.take k).length bs.length=min k bs.length)]at this
theorem CD {A:Option Addr}{c:Nat}{bs:List UInt8}{k:Nat}(h:k≤bs.length):Value.slice (jW A c 1 0) ((k:Nat):Int).toNat c=.slice A (bs.take k).length c:=by
 have hk:(bs.take k).length=k:=by rw[List.length_take];omega
 rw[sB,hk,Int.toNat_natCast]
theorem mY (hs:List KL):(hs.map KL.n1).length=hs.length:=List.length_map ..
theorem nC (hs:List KL):(hs.map KL.n2).length=hs.length:=List.length_map ..
section
variable {k:Nat} {f:iR→Bool} {bs B:List UInt8} {s n c a:Nat} {hs:List NL}
theorem ff (h:iv k f (bs.take (bs.length-8))):lk k f bs:=il rfl h
theorem ow {i v n e:Nat}{cQ:Int}(h:dr bs i=(v,n,e))(he:e≠0):bh cQ (bs.drop i)=none:=nh (by rw[h];exact he)
theorem xG {x:UInt8}(hx:bs[0]?=some x)(h3:(x.toNat:Int)=3):bh 3 bs=some (3,bs.drop 1):=by
 have hd:=rl hx;rw[List.drop_zero]at hd;have hx3:x=3:=by apply UInt8.toNat_inj.1;show x.toNat=3;omega
 refine aW.2 ⟨?_,by decide,by decide⟩;rw[ey (by decide)]
 conv=>lhs;rw[hd,hx3]
 rfl
theorem HQ {v0 v1 v2 n0 n1 n2:Nat}{x:UInt8}(hx:bs[0]?=some x)(h3:(x.toNat:Int)=3)(h0:dr bs 1=(v0,n0,0))(h1:dr bs n0=(v1,n1,0))(h2:dr bs n1=(v2,n2,0)):bs=dh v0 v1 v2++(bq k ([]:List nX)++bs.drop n2):=by
 have e0:=eR (cQ:=9223372036854775807) h0 (by have:=dP h0;omega);have e1:=eR (cQ:=9223372036854775807) h1 (by have:=dP h1;omega);have e2:=eR (cQ:=9223372036854775807) h2 (by have:=dP h2;omega);obtain⟨q0,_,_⟩:=aW.1 e0;obtain⟨q1,_,_⟩:=aW.1 e1;obtain⟨q2,_,_⟩:=aW.1 e2;obtain⟨q3,_,_⟩:=aW.1 (xG hx h3)
 conv=>lhs;rw[q3,q0,q1,q2]
 unfold dh bq;simp only[List.append_assoc,List.flatMap_nil,List.nil_append]
theorem Ay {x:UInt8}(hx:bs[0]?=some x)(h3:(x.toNat:Int)=3){v n e:Nat}(h:dr bs 1=(v,n,e))(he:e≠0):iv k f bs:=Il (xG hx h3) (ow h he)
theorem xo {x:UInt8}(hx:bs[0]?=some x)(h3:(x.toNat:Int)=3){v0 n0 v n e:Nat}(h0:dr bs 1=(v0,n0,0))(h:dr bs n0=(v,n,e))(he:e≠0):iv k f bs:=by
 have e3:=xG hx h3
 by_cases hv:(v0:Int)≤16
 ·
  exact Jv e3 (eR h0 hv) (ow h he)
 ·
  exact Il e3 (lR h0 (by omega))
theorem Ab {x:UInt8}(hx:bs[0]?=some x)(h3:(x.toNat:Int)=3){v0 n0 v1 n1 v n e:Nat}(h0:dr bs 1=(v0,n0,0))(h1:dr bs n0=(v1,n1,0))(h:dr bs n1=(v,n,e))(he:e≠0):iv k f bs:=by
 have e3:=xG hx h3
 by_cases hv:(v0:Int)≤16
 ·
  by_cases hw:(v1:Int)≤4611686018427387904
  ·
   exact JO e3 (eR h0 hv) (eR h1 hw) (.inl (ow h he))
  ·
   exact Jv e3 (eR h0 hv) (lR h1 (by omega))
 ·
  exact Il e3 (lR h0 (by omega))
end
theorem xg {k:Nat}:∀ {hs:List NL},(∀h∈hs,(cC k h.s.d).length≤7200000000∧0≤h.aZ∧h.aZ<64)→(bq k (hs.map NL.d)).length≤hs.length * 8000000000
 | [],_=>by simp[bq]
 | h :: hs, H => by
   have h1:=xg (k:=k) (hs:=hs) (fun z hz=>H z (by simp[hz]));obtain⟨h2,h3,h4⟩:=H h (by simp);have n1:=nine (n:=h.aZ.toNat) (by omega);have n2:=nine (n:=(cC k h.s.d).length) (by omega);rw[List.map_cons,iL,List.length_append,List.length_cons,Nat.succ_mul]
   have:(oq k h.d).length≤8000000000:=by
    show (aV h.aZ.toNat++(aV (cC k h.s.d).length++cC k h.s.d)).length≤_;simp only[List.length_append];omega
   omega
theorem wF {k:Nat}{f:iR→Bool}(hk:k≤2)(hf:∀d,f d=true→aH d=true){s n:Int}{hs:List NL}(hok:ju f ⟨s,n,hs.map NL.d⟩=true)(hsm:∀h∈hs,kQ h.s):(dB k ⟨s,n,hs.map NL.d⟩).length≤1000000000000:=by
 obtain⟨a1,a2,a3,a4,a5⟩:=cV (fI hok);have hl:=kO a5;have hl:hs.length≤64:=by have:(hs.map NL.d).length≤64:=hl;rwa[List.length_map]at this
 have h1:=xg (k:=k) (hs:=hs) (fun h hh=>by
  have hm:h.d∈hs.map NL.d:=List.mem_map.2 ⟨h,hh,rfl⟩;obtain⟨c1,c2⟩:=rh a5 _ hm;exact⟨BK hk (hf _ (tF hok _ hm)) (hsm h hh),c1,c2⟩)
 have h2:=Fv (s:=s.toNat) (n:=n.toNat) (c:=(hs.map NL.d).length) (by simp only at a1 a2;omega) (by simp only at a3 a4;omega) (by rw[List.length_map];omega);unfold dB;rw[oL];unfold dp;rw[List.length_append];have h3:hs.length * 8000000000≤512000000000:=by omega
 simp only at h2 h1 ⊢;omega
theorem Ba {x:cn}(hok:ju aH x.d1=true)(hs:x.small):(dB 1 x.d1).length≤1000000000000:=wF (by decide) (fun _ h=>h) hok (fun h hh=>by obtain⟨y,hy,rfl⟩:=List.mem_map.1 hh;exact hs.GP y hy)
theorem AQ {x:cn}(hok:ju bD x.d2=true)(hs:x.small):(dB 2 x.d2).length≤1000000000000:=wF (by decide) (fun _ h=>cT h) hok (fun h hh=>by obtain⟨y,hy,rfl⟩:=List.mem_map.1 hh;exact hs.GF y hy)
theorem sd (W:World)(aZ:Int)(A:Option Addr)(c:Nat)(bs:List UInt8)(hb:bs.length≤16777216)(hR:Rd W 1 (.slice A bs.length c) bs.length (bs.map aj)):Calls Tryz.prog 47 #[.int .i64 1,.int .i64 aZ,.slice A (bs).length c] W fun e w'=>(∃h:KL,h.aZ=aZ∧bs=cC 1 h.f.d∧aH h.f.d=true∧kQ h.f∧h.s=yK∧e=.returned (.tuple #[.agg #[.int .i64 h.aZ,.slice h.f.e.a h.f.e.es.length h.f.e.c,.slice h.f.p.va h.f.p.d.vec.length h.f.p.vc,.slice h.f.p.ca h.f.p.d.ab.length h.f.p.cc,.slice h.f.r.a h.f.r.rs.length h.f.r.c,.slice h.s.e.a h.s.e.es.length h.s.e.c,.slice h.s.p.va h.s.p.d.vec.length h.s.p.vc,.slice h.s.p.ca h.s.p.d.ab.length h.s.p.cc,.slice h.s.r.a h.s.r.rs.length h.s.r.c],.bool true])∧Sat W w' [fJ 216 h.f.e.a h.f.e.c h.f.e.es,cq 3 h.f.p.va h.f.p.vc h.f.p.d.vec,bp 219 h.f.p.ca h.f.p.cc h.f.p.d.ab,h.f.r.ch 206 3 219])∨(my 1 aH bs∧∃h:KL,e=.returned (.tuple #[.agg #[.int .i64 h.aZ,.slice h.f.e.a h.f.e.es.length h.f.e.c,.slice h.f.p.va h.f.p.d.vec.length h.f.p.vc,.slice h.f.p.ca h.f.p.d.ab.length h.f.p.cc,.slice h.f.r.a h.f.r.rs.length h.f.r.c,.slice h.s.e.a h.s.e.es.length h.s.e.c,.slice h.s.p.va h.s.p.d.vec.length h.s.p.vc,.slice h.s.p.ca h.s.p.d.ab.length h.s.p.cc,.slice h.s.r.a h.s.r.rs.length h.s.r.c],.bool false])∧Sat W w' []):=by
 refine bS Tryz.func47 [0,1,2] ?_;have O:=Sat.start W;refine uC 2 ?_;refine uN Dv O ?_;clear O;intro b6 w O;refine uO 7 ?_;refine u1 6 (c5 (aU rfl rfl) (by omega)) ?_;refine uF rfl (qH _ A c bs hb (hR.sat O)) ?_;rintro e w (⟨s,hst,hff,hsm,rfl,hT⟩ | ⟨hno,rfl,hT⟩)
 ·replace O:Sat _ _ (_::_::_::_::_):=O.ag hT;clear hT;refine uO 1 ?_;refine u1 0 (ai rfl rfl) ?_;refine u1 0 (ai rfl rfl) ?_;refine uN qg O ?_;clear O;intro b8 w O;refine uW (vs:=[_,_,_,_]) (cs':=[_,_,_,_]) rfl rfl gK O ?_;clear O;intro w O;refine uO 6 ?_;refine u1 0 (lS (cs:=[_,_,_,_]) rfl) ?_;intro a I;refine o1 1 I (ar I rfl uR) ?_;clear I a;refine u1 0 (c5 (aU rfl rfl) (by omega)) ?_;refine uW (vs:=[_,_,_,_,_,_,_,_,_]) (cs':=[_,_,_,_,_,_,_,_,_]) rfl rfl iS (O.p 5) ?_;clear O;intro w O;refine uO 5 ?_;intro a I;refine bO I rfl (br (cs:=[_,_,_,_,_,_,_,_,_]) I rfl DI iS (by exact O.ao (xs:=[_,_,_,_,_,_,_,_,_]) rfl)) (aQ I rfl) ?_;exact .inl ⟨(⟨aZ,s,yK⟩:KL),rfl,hst,hff,hsm,rfl,rfl,y7 ((((O.p 5).p 5).p 5).p 5)⟩
 ·replace O:Sat _ _ _:=O.ag hT;clear hT;refine uO 1 ?_;refine u1 0 (ai rfl rfl) ?_;refine u1 0 (ai rfl rfl) ?_;refine uN qg O ?_;clear O;intro b8 w O;refine uW (vs:=[_,_,_,_]) (cs':=[_,_,_,_]) rfl rfl gK O ?_;clear O;intro w O;refine uO 6 ?_;refine u1 0 (lS (cs:=[_,_,_,_]) rfl) ?_;intro a I;refine o1 1 I (ar I rfl uR) ?_;clear I a;refine u1 0 (dz (aU rfl rfl) (by omega)) ?_;refine uW (vs:=[_,_,_,_,_,_,_,_,_]) (cs':=[_,_,_,_,_,_,_,_,_]) rfl rfl iS (O.p 1) ?_;clear O;intro w O;refine uO 5 ?_;intro a I;refine bO I rfl (br (cs:=[_,_,_,_,_,_,_,_,_]) I rfl DI iS (by exact O.ao (xs:=[_,_,_,_,_,_,_,_,_]) rfl)) (aQ I rfl) ?_;exact .inr ⟨hno,(⟨aZ,yK,yK⟩:KL),rfl,O.nil⟩
theorem sC (W:World)(aZ:Int)(A:Option Addr)(c:Nat)(bs:List UInt8)(hb:bs.length≤16777216)(hR:Rd W 1 (.slice A bs.length c) bs.length (bs.map aj)):Calls Tryz.prog 47 #[.int .i64 2,.int .i64 aZ,.slice A (bs).length c] W fun e w'=>(∃h:KL,h.aZ=aZ∧bs=cC 2 h.s.d∧bD h.s.d=true∧kQ h.s∧h.f=yK∧e=.returned (.tuple #[.agg #[.int .i64 h.aZ,.slice h.f.e.a h.f.e.es.length h.f.e.c,.slice h.f.p.va h.f.p.d.vec.length h.f.p.vc,.slice h.f.p.ca h.f.p.d.ab.length h.f.p.cc,.slice h.f.r.a h.f.r.rs.length h.f.r.c,.slice h.s.e.a h.s.e.es.length h.s.e.c,.slice h.s.p.va h.s.p.d.vec.length h.s.p.vc,.slice h.s.p.ca h.s.p.d.ab.length h.s.p.cc,.slice h.s.r.a h.s.r.rs.length h.s.r.c],.bool true])∧Sat W w' [fJ 216 h.s.e.a h.s.e.c h.s.e.es,cq 3 h.s.p.va h.s.p.vc h.s.p.d.vec,bp 219 h.s.p.ca h.s.p.cc h.s.p.d.ab,h.s.r.ch 206 3 219])∨(my 2 bD bs∧∃h:KL,e=.returned (.tuple #[.agg #[.int .i64 h.aZ,.slice h.f.e.a h.f.e.es.length h.f.e.c,.slice h.f.p.va h.f.p.d.vec.length h.f.p.vc,.slice h.f.p.ca h.f.p.d.ab.length h.f.p.cc,.slice h.f.r.a h.f.r.rs.length h.f.r.c,.slice h.s.e.a h.s.e.es.length h.s.e.c,.slice h.s.p.va h.s.p.d.vec.length h.s.p.vc,.slice h.s.p.ca h.s.p.d.ab.length h.s.p.cc,.slice h.s.r.a h.s.r.rs.length h.s.r.c],.bool false])∧Sat W w' []):=by
 refine bS Tryz.func47 [0,1,2] ?_;have O:=Sat.start W;refine uC 2 ?_;refine uN Dv O ?_;clear O;intro b6 w O;refine uO 7 ?_;refine u1 8 (dz (aU rfl rfl) (by omega)) ?_;refine uF rfl (r7 _ A c bs hb (hR.sat O)) ?_;rintro e w (⟨s,hst,hff,hsm,rfl,hT⟩ | ⟨hno,rfl,hT⟩)
 ·replace O:Sat _ _ (_::_::_::_::_):=O.ag hT;clear hT;refine uO 1 ?_;refine u1 0 (ai rfl rfl) ?_;refine u1 0 (ai rfl rfl) ?_;refine uN sc O ?_;clear O;intro b10 w O;refine uW (vs:=[_,_,_,_]) (cs':=[_,_,_,_]) rfl rfl ir O ?_;clear O;intro w O;refine uO 6 ?_;refine u1 0 (lS (cs:=[_,_,_,_]) rfl) ?_;intro a I;refine o1 1 I (ar I rfl tR) ?_;clear I a;refine u1 0 (c5 (aU rfl rfl) (by omega)) ?_;refine uW (vs:=[_,_,_,_,_,_,_,_,_]) (cs':=[_,_,_,_,_,_,_,_,_]) rfl rfl iS (O.p 5) ?_;clear O;intro w O;refine uO 4 ?_;intro a I;refine bO I rfl (br (cs:=[_,_,_,_,_,_,_,_,_]) I rfl DI iS (by exact O.ao (xs:=[_,_,_,_,_,_,_,_,_]) rfl)) (aQ I rfl) ?_;exact .inl ⟨(⟨aZ,yK,s⟩:KL),rfl,hst,hff,hsm,rfl,rfl,y7 ((((O.p 5).p 5).p 5).p 5)⟩
 ·replace O:Sat _ _ _:=O.ag hT;clear hT;refine uO 1 ?_;refine u1 0 (ai rfl rfl) ?_;refine u1 0 (ai rfl rfl) ?_;refine uN sc O ?_;clear O;intro b10 w O;refine uW (vs:=[_,_,_,_]) (cs':=[_,_,_,_]) rfl rfl ir O ?_;clear O;intro w O;refine uO 6 ?_;refine u1 0 (lS (cs:=[_,_,_,_]) rfl) ?_;intro a I;refine o1 1 I (ar I rfl tR) ?_;clear I a;refine u1 0 (dz (aU rfl rfl) (by omega)) ?_;refine uW (vs:=[_,_,_,_,_,_,_,_,_]) (cs':=[_,_,_,_,_,_,_,_,_]) rfl rfl iS (O.p 1) ?_;clear O;intro w O;refine uO 4 ?_;intro a I;refine bO I rfl (br (cs:=[_,_,_,_,_,_,_,_,_]) I rfl DI iS (by exact O.ao (xs:=[_,_,_,_,_,_,_,_,_]) rfl)) (aQ I rfl) ?_;exact .inr ⟨hno,(⟨aZ,yK,yK⟩:KL),rfl,O.nil⟩
theorem Jw {W w:World}{L:List As}{A B C D E:As}(s:Sat W w (A::B::C::D::E::L)):Sat W w [A,B,C,D,E]:=Sat.cw (M:=[A,B,C,D,E]) (L:=L) s [A,B,C,D,E]
end Go.Proofs.YtkjabaihpkbfhaaGreat.Wk
