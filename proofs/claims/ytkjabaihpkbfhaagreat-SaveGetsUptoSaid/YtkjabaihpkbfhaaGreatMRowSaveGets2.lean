/- Texts of our own that a row leans on, put together. No condition of their own. -/
import Derived.Test.YtkjabaihpkbfhaaGreatMRowSaveGets1
set_option linter.unusedVariables false
set_option linter.unusedSimpArgs false
set_option maxRecDepth 100000
set_option maxHeartbeats 2000000
namespace Go.Proofs.YtkjabaihpkbfhaaGreat.Wk
open Go Go.RowKit Go.Proofs.YtkjabaihpkbfhaaGreat Go.Proofs.YtkjabaihpkbfhaaGreat.K Go.Proofs.YtkjabaihpkbfhaaGreat.T
theorem Fy {α:Type}{enc:α→List Value}(h1:∀x,∀u∈enc x,u.oneCell'=true)(xs:List α):∀u∈xs.flatMap enc,u.oneCell'=true:=fun u hu=>by
 obtain⟨x,_,hx⟩:=List.mem_flatMap.1 hu;exact h1 x u hx
theorem qX (x:bA):∀u∈gP x,u.oneCell'=true:=fun u hu=>by simp[gP]at hu;rcases hu with rfl | rfl<;>rfl
theorem ze (xs:List Int):∀u∈xs.map (Value.int .i64),u.oneCell'=true:=fun u hu=>by
 obtain⟨x,_,rfl⟩:=List.mem_map.1 hu
 rfl
structure PL.ok (w:World)(p:PL):Prop where
 vec:kY w p.va p.vc p.d.vec
 ab:jk w p.ca p.cc p.d.ab
theorem PL.ok.sat {W w:World}{L:List As}{p:PL}(h:p.ok W)(s:Sat W w L):p.ok w:=⟨h.vec.sat s,h.ab.sat s⟩
structure RL where
 cM:ByteArray
 p:PL
def RL.d (r:RL):bK:=⟨r.cM,r.p.d⟩
def js (r:RL):List Value:=[.string r.cM,.slice r.p.va r.p.d.vec.length r.p.vc,.slice r.p.ca r.p.d.ab.length r.p.cc]
theorem tM (r:RL):(js r).length=3:=rfl
theorem df {xs:List RL}{i:Nat}{x:RL}(h:xs[i]?=some x):∀j u,(js x)[j]?=some u→(xs.flatMap js)[i * 3+j]?=some u:=jI tM h
abbrev iF (w:World)(A:Option Addr)(c:Nat)(rs:List RL):Prop:=Rd w 3 (.slice A rs.length c) rs.length (rs.flatMap js)
def s4 (p:PL):List Value:=[.slice p.va p.d.vec.length p.vc,.slice p.ca p.d.ab.length p.cc]
theorem FA (r:PL):(s4 r).length=2:=rfl
theorem kT {xs:List PL}{i:Nat}{x:PL}(h:xs[i]?=some x):∀j u,(s4 x)[j]?=some u→(xs.flatMap s4)[i * 2+j]?=some u:=jI FA h
abbrev Bi (w:World)(A:Option Addr)(c:Nat)(ps:List PL):Prop:=Rd w 2 (.slice A ps.length c) ps.length (ps.flatMap s4)
structure jv where
 a:Option Addr
 c:Nat
 rs:List RL
def jv.d (r:jv):List bK:=r.rs.map RL.d
structure jv.ok (w:World)(r:jv):Prop where
 top:iF w r.a r.c r.rs
 each:∀x∈r.rs,x.p.ok w
theorem jv.ok.sat {W w:World}{L:List As}{r:jv}(h:r.ok W)(s:Sat W w L):r.ok w:=⟨h.top.sat s,fun x hx=>(h.each x hx).sat s⟩
structure Jl where
 a:Option Addr
 c:Nat
 es:List aS
def Jl.ok (w:World)(e:Jl):Prop:=iz w e.a e.c e.es
theorem Jl.ok.sat {W w:World}{L:List As}{e:Jl}(h:e.ok W)(s:Sat W w L):e.ok w:=Rd.sat h s
structure SL where
 e:Jl
 p:PL
 r:jv
def SL.d (s:SL):iR:=⟨s.e.es,s.p.d,s.r.d⟩
def rG (s:SL):List Value:=[.slice s.e.a s.e.es.length s.e.c,.slice s.p.va s.p.d.vec.length s.p.vc,.slice s.p.ca s.p.d.ab.length s.p.cc,.slice s.r.a s.r.rs.length s.r.c]
structure SL.ok (w:World)(s:SL):Prop where
 e:s.e.ok w
 p:s.p.ok w
 r:s.r.ok w
theorem SL.ok.sat {W w:World}{L:List As}{s:SL}(h:s.ok W)(t:Sat W w L):s.ok w:=⟨h.e.sat t,h.p.sat t,h.r.sat t⟩
def PL.ch (ei es:Nat)(p:PL):As:=star (cq ei p.va p.vc p.d.vec) (bp es p.ca p.cc p.d.ab)
theorem PL.sD {W w:World}{L:List As}{ei es:Nat}{p:PL}(s:Sat W w (p.ch ei es::L)):p.ok w:=⟨s.open_.rd,s.open_.qN.rd⟩
theorem PL.Ew {W w:World}{L:List As}{ei es:Nat}{A B:Option Addr}{c c':Nat}{d:aI}(s:Sat W w (cq ei A c d.vec::bp es B c' d.ab::L)):Sat W w ((⟨A,c,B,c',d⟩:PL).ch ei es::L):=s.shut
def jv.ch (er ei es:Nat)(r:jv):As:=star (row er 3 (.slice r.a r.rs.length r.c) r.rs.length (r.rs.flatMap js)) (bB (r.rs.map fun x=>x.p.ch ei es))
theorem oE {W w:World}{L:List As}{ei es:Nat}{rs:List RL}(s:Sat W w (bB (rs.map fun x=>x.p.ch ei es)::L)):∀x∈rs,x.p.ok w:=fun x hx=>by
 obtain⟨i,hi⟩:=List.mem_iff_getElem?.1 hx;have h:(rs.map fun x=>x.p.ch ei es)[i]?=some (x.p.ch ei es):=by rw[List.getElem?_map,hi];rfl
 exact PL.sD (s.dU h)
theorem jv.sD {W w:World}{L:List As}{er ei es:Nat}{r:jv}(s:Sat W w (r.ch er ei es::L)):r.ok w:=⟨s.open_.rd,oE s.open_.qN⟩
structure Loc (α:Type) where
 a:Option Addr
 c:Nat
 xs:List α
def Gb {α:Type}(l:Loc α):List Value:=[.slice l.a l.xs.length l.c]
theorem FV {α:Type}(l:Loc α):(Gb l).length=1:=rfl
theorem Gc {α:Type}{xs:List (Loc α)}{i:Nat}{x:Loc α}(h:xs[i]?=some x):∀j u,(Gb x)[j]?=some u→(xs.flatMap Gb)[i * 1+j]?=some u:=jI FV h
def Loc.runs (w:World)(l:Loc bA):Prop:=ku w l.a l.c l.xs
theorem qz (a b:List bA):fq (a++b)=fq a++fq b:=by simp[fq]
theorem nL {a:List bA}{r c:bA}(h:gQ r=some c):fq (a++[r])=fq a++[c]:=by rw[qz];simp[fq,h]
theorem nU {a:List bA}{r:bA}(h:gQ r=none):fq (a++[r])=fq a:=by rw[qz];simp[fq,h]
theorem iZ (l:List bA):(fq l).length≤l.length:=List.length_filterMap_le _ _
theorem ES {xs:List bA}{i:Nat}{x:bA}(h:xs[i]?=some x)(v:Int):(xs.flatMap gP).set (i * 2+1) (.int .i64 v)=(xs.set i (x.1,v)).flatMap gP:=by
 induction xs generalizing i with
 | nil=>simp at h
 | cons y xs ih =>
   cases i with
   | zero=>simp at h;subst h;rfl
   | succ i =>
     rw[List.flatMap_cons,List.set_append_right _ _ (by simp[gP];omega)];rw[show (i+1) * 2+1-(gP y).length=i * 2+1 from by simp[gP];omega,ih (by simpa using h)]
     rfl
theorem Fw {xs:List bA}{x r:bA}(h:xs[xs.length-1]?=some x)(h0:0<xs.length)(hr:r.1≤x.2+1):fZ xs r=xs.set (xs.length-1) (x.1,max x.2 r.2):=by
 rcases List.eq_nil_or_concat xs with rfl | ⟨o,y,rfl⟩
 ·
  simp at h0
 ·
  rw[List.concat_eq_append]at *;simp at h;subst h;rw[mV,if_pos hr];simp
theorem wN {xs:List bA}{r:bA}(h:∀x,xs[xs.length-1]?=some x→0<xs.length→¬r.1≤x.2+1):fZ xs r=xs++[r]:=by
 rcases List.eq_nil_or_concat xs with rfl | ⟨o,y,rfl⟩
 ·
  rfl
 ·
  rw[List.concat_eq_append]at *;rw[mV,if_neg (h y (by simp) (by simp))]
theorem zi (xs:List bA)(r:bA):(fZ xs r).length≤xs.length+1:=by
 rcases List.eq_nil_or_concat xs with rfl | ⟨o,y,rfl⟩
 ·
  simp[fZ]
 ·
  rw[List.concat_eq_append,mV];split<;>simp
theorem oc:∀(l out:List bA),(l.foldl fZ out).length≤out.length+l.length
 | [],out=>by simp
 | r :: l, out => by
   have:=oc l (fZ out r);have:=zi out r;rw[List.foldl_cons,List.length_cons];omega
theorem El {raw ys:List bA}(hp:ys.Perm (fq raw))(hs:ys.Pairwise (fun a b=>a.1≤b.1)):ys.foldl fZ []=av raw:=by
 obtain⟨h1,h2⟩:=p6 ys [] trivial (fun r hr=>oF r (hp.mem_iff.1 hr)) (fun s hs=>by cases hs) hs;refine oY h1 fun n=>?_;rw[h2,←wZ];constructor
 ·
  rintro (h | ⟨r,hr,h⟩)
  ·
   simp[bJ]at h
  ·
   exact⟨r,hp.mem_iff.1 hr,h⟩
 ·
  rintro ⟨r,hr,h⟩;exact .inr ⟨r,hp.mem_iff.2 hr,h⟩
theorem DN {raw ys:List bA}(hp:ys.Perm (fq raw))(hs:ys.Pairwise (fun a b=>a.1≤b.1))(k:Nat):can ((ys.take k).foldl fZ [])∧∀s∈(ys.take k).foldl fZ [],∀r∈ys.drop k,s.1≤r.1:=by
 have hok:∀r∈ys,1≤r.1∧r.1≤r.2∧r.2≤gJ:=fun r hr=>oF r (hp.mem_iff.1 hr)
 have hsk:(ys.take k).Pairwise (fun a b=>a.1≤b.1):=hs.sublist (List.take_sublist k ys);obtain⟨h1,h2⟩:=p6 (ys.take k) [] trivial (fun r hr=>hok r (List.mem_of_mem_take hr)) (fun s hs=>by cases hs) hsk;refine⟨h1,fun s hs2 r hr=>?_⟩
 have hcr:∀a∈ys.take k,∀b∈ys.drop k,a.1≤b.1:=by
  have:=hs;rw[←List.take_append_drop k ys,List.pairwise_append]at this;exact this.2.2
 have hm:bJ ((ys.take k).foldl fZ []) s.1:=⟨s,hs2,Int.le_refl _,(h1.each s hs2).2.1⟩;rcases (h2 s.1).1 hm with h | ⟨t,ht,h3,h4⟩
 ·
  simp[bJ]at h
 ·
  -- s begins where one of those that were added begins,or behind
  have:∀(l out:List bA),(∀x∈out,∀r∈ys.drop k,x.1≤r.1)→(∀x∈l,∀r∈ys.drop k,x.1≤r.1)→∀x∈l.foldl fZ out,∀r∈ys.drop k,x.1≤r.1:=by
   intro l
   induction l with
   | nil=>intro out ho _ x hx;exact ho x hx
   | cons y l ih =>
     intro out ho hl x hx;refine ih (fZ out y) (fun z hz q hq=>?_) (fun z hz=>hl z (by simp[hz])) x hx;rcases List.eq_nil_or_concat out with rfl | ⟨o,v,rfl⟩
     ·
      simp[fZ]at hz;subst hz;exact hl _ (by simp) q hq
     ·
      rw[List.concat_eq_append,mV]at hz
      split at hz
      ·
       rcases List.mem_append.1 hz with hz | hz
       ·
        exact ho z (by simp[hz]) q hq
       ·
        simp at hz;subst hz;exact ho v (by simp) q hq
      ·
       rcases List.mem_append.1 hz with hz | hz
       ·
        exact ho z (by simpa using hz) q hq
       ·
        simp at hz;subst hz;exact hl _ (by simp) q hq
  exact this (ys.take k) [] (fun x hx=>by cases hx) hcr s hs2 r hr
theorem cK (l:List bA):(av l).length≤l.length:=by
 have hi:∀(l:List bA) (r:bA),(qw r l).length≤l.length+1:=by
  intro l
  induction l with
  | nil=>intro r;simp[qw]
  | cons x l ih =>
    intro r;rw[qw]
    split
    ·
     simp
    ·
     split
     ·
      have:=ih r;simp;omega
     ·
      have:=ih (min r.1 x.1,max r.2 x.2);simp;omega
 induction l with
 | nil=>simp[av]
 | cons r l ih =>
   have e:av (r::l)=match gQ r with | some c=>qw c (av l) | none=>av l:=rfl
   rw[e];cases gQ r with
   | none=>simp only;simp;omega
   | some c=>simp only;have:=hi (av l) c;simp;omega
theorem fQ {W w:World}{L:List As}{e sz n c:Nat}{A:Option Addr}{cs cs':List Value}{m:Nat}(h:Sat W w (row e sz (.slice A n c) n cs::L))(hn:n=m)(hc:cs=cs'):Sat W w (row e sz (.slice A m c) m cs'::L):=by subst hn hc;exact h
theorem p3 {A:Option Addr}{n m c:Nat}(h:n=m):Ending.returned (.slice A n c)=.returned (.slice A m c):=by rw[h]
theorem gy {W w:World}{L:List As}{A:As}(s:Sat W w (A::L)):Sat W w [A]:=Sat.cw (M:=[A]) (L:=L) s [A]
theorem n5 {W w:World}{L:List As}{A B:As}(s:Sat W w (A::B::L)):Sat W w [A,B]:=Sat.cw (M:=[A,B]) (L:=L) s [A,B]
theorem sJ {W w:World}{L:List As}{A B C:As}(s:Sat W w (A::B::C::L)):Sat W w [A,B,C]:=Sat.cw (M:=[A,B,C]) (L:=L) s [A,B,C]
theorem y7 {W w:World}{L:List As}{A B C D:As}(s:Sat W w (A::B::C::D::L)):Sat W w [A,B,C,D]:=Sat.cw (M:=[A,B,C,D]) (L:=L) s [A,B,C,D]
theorem w0 {α:Type}{enc:α→List Value}{k:Nat}(hk:∀x,(enc x).length=k):∀(xs:List α) (i:Nat),(xs.flatMap enc).drop (i * k)=(xs.drop i).flatMap enc
 | xs,0=>by simp
 | [],i+1=>by simp
 | x :: xs, i + 1 => by
   rw[List.flatMap_cons,List.drop_append,List.drop_of_length_le (by rw[hk,Nat.add_mul];omega),List.nil_append,hk,show (i+1) * k-k=i * k from by rw[Nat.add_mul];omega,w0 hk xs i]
   rfl
theorem F1 {w:World}{A:Option Addr}{c:Nat}{ns:List bA}(h:ku w A c ns)(h1:1≤ns.length):Rd w 2 (.slice (jW A c 2 1) (ns.length-1) (c-1)) (ns.length-1) ((ns.drop 1).flatMap gP):=by
 have h2:=Rd.G8 h 1 h1;rwa[w0 uI ns 1]at h2
theorem qd:∀(l:List bA) (next:Int),(lH next l).length≤l.length+1
 | [],next=>by unfold lH;split<;>simp
 | r :: l, next => by
   have:=qd l (r.2+1);rw[lH,List.length_append,List.length_cons]
   split<;>simp<;>omega
theorem lU (l:List bA):(aX l).2.length≤l.length:=by
 cases l with
 | nil=>simp[aX]
 | cons r l=>rw[fV];split<;>simp
theorem BI (W:World)(r:bA)  : Calls Tryz.prog 285 #[.agg #[.int .i64 r.1,.int .i64 r.2]] W fun e w'=>e=.returned (.tuple #[.agg #[.int .i64 (max r.1 1),.int .i64 (min r.2 1000000000)],.bool (decide (max r.1 1≤min r.2 1000000000))])∧Sat W w' []:=by
 refine bS Tryz.func285 [0] ?_;have O:=Sat.start W;refine uC 2 ?_;refine uB rfl O ?_;clear O;intro b1 w O;refine uN pC O ?_;clear O;intro b2 w O;refine uO 5 ?_;refine u1 0 (aa rfl gv) ?_;refine u1 0 (ld rfl) ?_;refine u1 0 (uL rfl rfl) ?_;refine u1 0 (aa rfl dZ) ?_;refine u1 0 (ld rfl) ?_;refine u1 0 (yy rfl rfl) ?_;refine u1 0 (aa rfl gv) ?_;intro a I;refine fS (cs':=[_,_]) I rfl rfl dA eP rfl (O.p 1) rfl rfl ?_;clear O;intro w O;refine o1 0 I (aa (I.ev rfl) dZ) ?_;clear I a;intro a I;refine fS (cs':=[_,_]) I rfl rfl dA eP rfl O rfl rfl ?_;clear O;intro w O;refine rO 3 I ?_;clear I a;intro a I;refine Hi (fun w'=>∃v,Sat W w' [a6 b1 (.cells #[.int .i64 (max r.1 1),.int .i64 (min r.2 1000000000)] 357),a6 b2 (.cells v 357)]) (by kernel_rfl) ?_;replace O:=O.drew
 refine K.h1 0 I pk rfl rfl rfl rfl (by kernel_rfl) (by kernel_rfl) (by kernel_rfl) (by exact⟨_,O⟩) (fun w hT=>let ⟨v,O⟩:=hT;(aG (cs:=[_,_]) (I.ev rfl) s8 dC (by exact O.ao (xs:=[_,_]) rfl))) ?_;clear I a;intro a I;refine K.h1 1 I pk rfl rfl rfl rfl (by kernel_rfl) (by kernel_rfl) (by kernel_rfl) (by exact⟨_,O⟩) (fun w hT=>let ⟨v,O⟩:=hT;(aa (I.ev rfl) gv)) ?_;clear I a;intro a I;refine K.h1 2 I pk rfl rfl rfl rfl (by kernel_rfl) (by kernel_rfl) (by kernel_rfl) (by exact⟨_,O⟩) (fun w hT=>let ⟨v,O⟩:=hT;(an (I.ev rfl) dA (by exact O.cell rfl))) ?_;clear I a;intro a I;refine K.h1 3 I pk rfl rfl rfl rfl (by kernel_rfl) (by kernel_rfl) (by kernel_rfl) (by exact⟨_,O⟩) (fun w hT=>let ⟨v,O⟩:=hT;(aa (I.ev rfl) dZ)) ?_;clear I a;intro a I
 refine K.h1 4 I pk rfl rfl rfl rfl (by kernel_rfl) (by kernel_rfl) (by kernel_rfl) (by exact⟨_,O⟩) (fun w hT=>let ⟨v,O⟩:=hT;(an (I.ev rfl) dA (by exact O.cell rfl))) ?_;clear I a;intro a I;refine K.h1 5 I pk rfl rfl rfl rfl (by kernel_rfl) (by kernel_rfl) (by kernel_rfl) (by exact⟨_,O⟩) (fun w hT=>let ⟨v,O⟩:=hT;(dD (I.ev rfl) (I.ev rfl))) ?_;clear I a;intro a I;refine Jz 6 (by kernel_rfl) ?_;refine cH (vs:=[_,_]) (cs':=[_,_]) I rfl rfl rfl dC (by simp[Value.oneCell']) (O.p 1) rfl rfl ?_;clear O;intro w O;refine⟨(by exact⟨_,O.p 1⟩),?_⟩;refine K.h1 7 I pk rfl rfl rfl rfl (by kernel_rfl) (by kernel_rfl) (by kernel_rfl) (by exact⟨_,O.p 1⟩) (fun w hT=>let ⟨v,O⟩:=hT;(qQ (I.ev rfl))) ?_;clear I a;intro a I;refine wpAnyH_done (by kernel_rfl) ?_ _;refine rE 2 I ?_;clear I a;intro a I
 refine bO I rfl (br (cs:=[_,_]) I rfl s8 dC (by exact O.ao (xs:=[_,_]) rfl)) (aQ I rfl) ?_;exact⟨rfl,O.nil⟩
theorem Da (W w:World)(L:List As)(A:Option Addr)(c:Nat)(xs:List bA)(r:bA)(O:Sat W w (fe 357 A c xs::L))(hx2:∀x∈xs,0≤x.2∧x.2≤1000000000)(hl:xs.length≤1000000000000):Calls Tryz.prog 288 #[.slice A xs.length c,.agg #[.int .i64 r.1,.int .i64 r.2]] w fun e w'=>∃A' c',e=.returned (.slice A' (fZ xs r).length c')∧Sat W w' (fe 357 A' c' (fZ xs r)::L):=by
 refine bS Tryz.func288 [0,1] ?_;refine uC 2 ?_;refine uB rfl O ?_;clear O;intro b3 w O;refine uO 7 ?_;refine u1 4 (ak rfl bU) ?_;intro a I;refine cF (fun w'=>Sat _ w' _) (by kernel_rfl) (by kernel_rfl) O.drew ?_;refine rQ 1 I ?_;clear I a;intro a I;refine K.sE I rfl rfl rfl (fun w O=>(cG (I.ev rfl) (I.ev rfl))) ?_ ?_
 ·clear I a;intro h9;refine uQ 1 ?_;refine bj 0 (fun w O=>(aa rfl gv)) ?_;refine bj 2 (fun w O=>(ld rfl)) ?_;refine bj 0 (fun w O=>(sb rfl rfl)) ?_;obtain⟨A_p,rfl⟩:∃q,A=some q:=(O.p 1).rd.au (by omega);obtain⟨x,hx⟩:∃zz_,xs[((xs.length:Int)-1).toNat]?=some zz_:=⟨_,List.getElem?_eq_getElem (by omega)⟩;have hxb:=hx2 x (List.mem_of_getElem? hx);refine bj 0 (fun w O=>(ix rfl rfl bU dC)) ?_;refine bj 0 (fun w O=>(aC rfl dZ)) ?_;refine bj 0 (fun w O=>(an rfl dA (bQ (O.p 1).rd (eX hx 1 _ rfl)))) ?_;refine bj 0 (fun w O=>(ad rfl rfl)) ?_;intro a I;refine K.oU I (aT I rfl rfl rfl) rfl rfl (fun w O=>(dD (I.ev rfl) (I.ev rfl))) ?_ ?_
  ·clear I a;intro h20;refine uQ 1 ?_;intro a I;refine wpQuiet_nil ?_;clear O;intro w O;refine rE 3 I ?_;clear I a;intro a I;refine xN (l1:=[_,_,_,_,_,_,_,_,_,_,_,_,_,_]) (l2:=[_]) rfl (by kernel_rfl) (by kernel_rfl) ?_;replace O:=O.drew;refine rT 2 I ?_;clear I a;refine ud 2 (sb rfl rfl) ?_;refine ud 0 (sb rfl rfl) ?_;refine ud 0 (ix rfl rfl bU dC) ?_;refine ud 0 (aC rfl dZ) ?_;refine ud 0 (an rfl dA (bQ (O.p 1).rd (eX hx 1 _ rfl))) ?_;refine ud 0 (aa rfl dZ) ?_;refine ud 0 (ld rfl) ?_;refine ud 0 (uL rfl rfl) ?_;refine ud 0 (ix rfl rfl bU dC) ?_;refine ud 0 (aC rfl dZ) ?_;intro a I;refine wpStill_nil ?_;refine JY (((xs.length:Int)-1).toNat * 2+1) I rfl (add_add _ _ _) rfl dA eP rfl (O.p 1) (by rw[oy uI];omega) ?_;clear O;intro w O;refine rO 2 I ?_;clear I a
   intro a I;replace I:=I.kp [0,3,4] rfl;refine rC 8 I ?_;clear I a;refine aY ?_;have ex:xs[xs.length-1]?=some x:=by rw[←hx];congr 1;omega
   have es:=Fw (r:=r) ex (by omega) (by omega);have ei:((xs.length:Int)-1).toNat=xs.length-1:=by omega
   rw[ei,ES ex]at O;rw[es];exact⟨_,_,p3 List.length_set.symm,fQ (O.p 1).drop List.length_set.symm rfl⟩
  ·clear I a;intro h20;refine uQ 1 ?_;intro a I;refine wpQuiet_nil ?_;clear O;intro w O;refine rE 7 I ?_;clear I a;refine u1 0 (lS (cs:=[_,_]) rfl) ?_;intro a I;refine gF (vss:=[[_,_]]) I rfl rfl bU iO rfl rfl rfl (by simp) rfl O ?_;clear I a O;intro A39 w O;intro a I;refine dq I rfl rfl rfl bU iO rfl (O.p 2) (O.rd.src bU (qX r)) (by omega) (by omega) ?_;clear I a O;intro A40 c40 w hc40 O;refine uO 4 ?_;refine aY ?_;have ex:xs[xs.length-1]?=some x:=by rw[←hx];congr 1;omega
   have es:fZ xs r=xs++[r]:=wN fun y hy h0=>by rw[ex]at hy;cases hy;omega
   rw[es];exact⟨_,_,p3 (by simp),fQ ((O.p 2).drop.p 1).drop (by simp) (by simp[gP])⟩
 ·clear I a;intro h9;refine uQ 12 ?_;intro a I;refine wpQuiet_nil ?_;clear O;intro w O;refine rE 7 I ?_;clear I a;refine u1 0 (lS (cs:=[_,_]) rfl) ?_;intro a I;refine gF (vss:=[[_,_]]) I rfl rfl bU iO rfl rfl rfl (by simp) rfl O ?_;clear I a O;intro A39 w O;intro a I;refine dq I rfl rfl rfl bU iO rfl (O.p 2) (O.rd.src bU (qX r)) (by omega) (by omega) ?_;clear I a O;intro A40 c40 w hc40 O;refine uO 4 ?_;refine aY ?_;have es:fZ xs r=xs++[r]:=wN fun y hy h0=>by omega
  rw[es];exact⟨_,_,p3 (by simp),fQ ((O.p 2).drop.p 1).drop (by simp) (by simp[gP])⟩
theorem yw (W:World)(A:Option Addr)(n c:Nat)(xs:List bA)(hR:Rd W 2 (.slice A n c) n (xs.flatMap gP))(hn:n=xs.length)(hl:xs.length≤1000000000000):Calls Tryz.prog 273 #[.slice A n c] W fun e w'=>∃A' c',e=.returned (.slice A' xs.length c')∧Sat W w' [fe 357 A' c' xs]:=by
 refine bS Tryz.func273 [0] ?_;have O:=Sat.start W;refine uC 9 ?_;refine j4 0 0 (AI rfl rfl bU) ?_ ?_
 ·intro h4;refine uO 10 ?_;refine aY ?_;obtain rfl:A=none:=by simpa using h4
  obtain⟨h0,_⟩:=hR.nil;obtain rfl:=List.eq_nil_of_length_eq_zero (by omega:xs.length=0);exact⟨none,0,rfl,O.ba _ _⟩
 ·intro h4;refine uO 7 ?_;intro a I;refine Gj I rfl bU iO O ?_;clear I a O;intro A5 w O;refine uO 1 ?_;intro a I;refine dq I rfl rfl rfl bU iO rfl O ((hR.sat O).src bU (Fy qX xs)) (by omega) (by omega) ?_;clear I a O;intro A7 c7 w hc7 O;refine uO 4 ?_;refine aY ?_;simp only[Nat.zero_add,List.nil_append]at O ⊢;exact⟨_,_,p3 hn,fQ O hn rfl⟩
end Go.Proofs.YtkjabaihpkbfhaaGreat.Wk
namespace Go.Proofs.YtkjabaihpkbfhaaGreat.K
open Go Go.RowKit Go.Proofs
theorem vu {α:Type}[Inhabited α]{enc:α→List Value}{k:Nat}(hk:∀x,(enc x).length=k)(d:Array α):(Go.Sort.flatK enc k d).toList=d.toList.flatMap enc:=by
 have key:∀l:List α,(Go.Sort.flatK enc k l.toArray).toList=l.flatMap enc:=by
  intro l
  have hl:∀l:List α,(l.flatMap enc).length=l.length * k:=by
   intro l
   induction l with
   | nil=>simp
   | cons x l ih=>rw[List.flatMap_cons,List.length_append,ih,hk,List.length_cons,Nat.add_mul];omega
  refine List.ext_getElem (by rw[hl];simp) fun i h1 h2=>?_;have hi:i<l.length * k:=by rw[hl]at h2;exact h2
  have k0 : 0 < k := by rcases Nat.eq_zero_or_pos k with h | h; · subst h; simp at hi
                        ·
                         exact h
  have e1:(Go.Sort.flatK enc k l.toArray).toList[i]=(enc l.toArray[i / k]!)[i % k]!:=by
   have h3:=Go.Sort.get_flatK enc k l.toArray i (by simpa using hi);rw[getElem!_pos _ i (by simpa using hi)]at h3;rw[←h3];simp
  rw[e1];have hq:i / k<l.length:=by rw[Nat.div_lt_iff_lt_mul k0];exact hi
  have hm:i % k<k:=Nat.mod_lt _ k0
  have at_:∀(l:List α) (q j:Nat) (hq:q<l.length) (hj:j<k),(l.flatMap enc)[q * k+j]?=some ((enc l[q])[j]'(by rw[hk];exact hj)):=by
   intro l
   induction l with
   | nil=>intro q j hq;simp at hq
   | cons x l ih =>
     intro q j hq hj;cases q with
     | zero=>rw[List.flatMap_cons,List.getElem?_append_left (by rw[hk];omega)];simp[hk,hj]
     | succ q =>
       rw[List.flatMap_cons,List.getElem?_append_right (by rw[hk,Nat.add_mul];omega),hk,show (q+1) * k+j-k=q * k+j from by rw[Nat.add_mul];omega];exact ih q j (by simpa using hq) hj
  have h4:=at_ l (i / k) (i % k) hq hm;have hdm:i / k * k+i % k=i:=by rw[Nat.mul_comm];exact Nat.div_add_mod i k
  rw[hdm,List.getElem?_eq_getElem h2]at h4;have h5:=Option.some.inj h4;rw[h5];have h6:l.toArray[i / k]! =l[i / k]:=by rw[getElem!_pos _ _ (by simpa using hq)];simp
  rw[h6,getElem!_pos _ _ (by rw[hk];exact hm)]
 have:=key d.toList;simpa using this
theorem Eb {α:Type}[Inhabited α]{W w:World}{L:List As}{enc:α→List Value}{e k b n c:Nat}{xs:List α}(hk:∀x,(enc x).length=k)(s:Sat W w (row e k (.slice (some ⟨b,0,none⟩) n c) n (xs.flatMap enc)::L))(hn:n=xs.length) :
 Go.Sort.HoldsK enc k w b 0 xs.toArray∧W.heap.size≤b∧b<w.heap.size:=by
 obtain⟨bl,h,⟨h1,h2,a,s1,s2,q,r⟩,t⟩:=s;rcases q with ⟨hv,_,_⟩ | ⟨b',cap,sp,fr,hv,hnc,hcap,hl,hl2,hfr,hb⟩
 ·
  cases hv
 ·
  cases hv;have S:Sat W w (a6 b (.cells (xs.flatMap enc++sp).toArray e fr)::L):=⟨bl,h,⟨h1,h2,a,s1,s2,hb,r⟩,t⟩;refine⟨fun j hj=>?_,S.block.2,S.lt⟩;rw[Go.Sort.size_flatK]at hj;have hj:j<xs.length * k:=by simpa using hj
  have hlen:(xs.flatMap enc).length=xs.length * k:=by rw[hl,hn]
  have e1:(Go.Sort.flatK enc k xs.toArray)[j]! =(xs.flatMap enc)[j]'(by rw[hlen];exact hj):=by
   have e2:=vu hk xs.toArray;simp only[]at e2;have hj2:j<(Go.Sort.flatK enc k xs.toArray).toList.length:=by simpa using hj
   rw[getElem!_pos _ j (by simpa using hj)];have e3:(Go.Sort.flatK enc k xs.toArray).toList[j]=(xs.flatMap enc)[j]'(by rw[hlen];exact hj):=List.getElem_of_eq e2 hj2;rw[←e3];simp
  rw[e1,Nat.zero_add];have hcap':j<c * k:=by rw[←hl2,List.length_append,hlen];omega
  refine⟨?_,S.yh hfr hcap'⟩;refine S.pJ ?_;simp only[List.getElem?_toArray];rw[List.getElem?_append_left (by rw[hlen];exact hj)];exact List.getElem?_eq_getElem _
theorem x3 {F:Array Value}{cs sp:List Value}(h:F.size=cs.length):Go.Sort.putCells id 0 F (cs++sp).toArray=(F.toList++sp).toArray:=by
 refine Array.ext' ?_;refine List.ext_getElem ?_ fun i h1 h2=>?_
 ·
  simp[Go.Sort.putCells,h]
 ·
  simp only[Go.Sort.putCells,Array.toList_mapIdx,List.getElem_mapIdx,Nat.zero_le,true_and,Nat.zero_add,Nat.sub_zero,id]
  by_cases hi:i<F.size
  ·
   rw[if_pos hi,getElem!_pos F i hi];simp[hi]
  ·
   rw[if_neg hi];have:cs.length≤i:=by omega
   have h3:F.toList.length≤i:=by simp;omega
   simp only[List.getElem_append_right h3];simp[List.getElem_append_right this,h]
theorem Sat.sorted {α:Type}[Inhabited α]{W w:World}{L:List As}{enc:α→List Value}{e k b n c m:Nat}{xs:List α}(hk:∀x,(enc x).length=k)(d:Array α)(os:Array Obj)(s:Sat W w (row e k (.slice (some ⟨b,0,none⟩) n c) n (xs.flatMap enc)::L))(hn:n=xs.length)(hd:d.size=xs.length) :
 Sat W (sortWorldK enc k w b 0 m d os) (row e k (.slice (some ⟨b,0,none⟩) n c) n (d.toList.flatMap enc)::L):=by
 have hfl:=vu hk d;obtain⟨bl,h,⟨h1,h2,a,s1,s2,q,r⟩,t⟩:=s;rcases q with ⟨hv,_,_⟩ | ⟨b',cap,sp,fr,hv,hnc,hcap,hl,hl2,hfr,hb⟩
 ·
  cases hv
 ·
  cases hv;have S:Sat W w (a6 b (.cells (xs.flatMap enc++sp).toArray e fr)::L):=⟨bl,h,⟨h1,h2,a,s1,s2,hb,r⟩,t⟩;have hbk:=S.block;have hsz:(Go.Sort.flatK enc k d).size=(xs.flatMap enc).length:=by rw[Go.Sort.size_flatK,hl,hn,hd]
  have hheap:(Go.Sort.putRowK enc k (Go.Sort.ahead w m) b 0 d).heap=w.heap.modify b (Go.Sort.onCells (Go.Sort.putCells id 0 (Go.Sort.flatK enc k d))):=rfl
  have S1:Sat W (Go.Sort.putRowK enc k (Go.Sort.ahead w m) b 0 d) (a6 b (.cells (d.toList.flatMap enc++sp).toArray e fr)::L):=by
   refine S.write ⟨rfl,rfl,rfl,by rw[hheap];simp,fun i hi=>?_⟩ ?_ fun i hi=>?_
   ·
    rw[hheap,Array.getElem?_modify,if_neg (by omega)]
   ·
    rw[hheap,Array.getElem?_modify,if_pos rfl,hbk.1];simp only[Option.map_some,Go.Sort.onCells];rw[x3 hsz,hfl]
   ·
    rw[hheap,Array.getElem?_modify,if_neg (by omega)]
  have S2:Sat W (sortWorldK enc k w b 0 m d os) (a6 b (.cells (d.toList.flatMap enc++sp).toArray e fr)::L):=by
   have hlt:=S1.below.size
   have hg:∀i,i<(Go.Sort.putRowK enc k (Go.Sort.ahead w m) b 0 d).heap.size→(sortWorldK enc k w b 0 m d os).heap[i]?=(Go.Sort.putRowK enc k (Go.Sort.ahead w m) b 0 d).heap[i]?:=fun i hi=>by
    show ((Go.Sort.putRowK enc k (Go.Sort.ahead w m) b 0 d).heap++os)[i]?=_;rw[Array.getElem?_append_left hi]
   refine S1.move ⟨rfl,rfl,rfl,?_,fun i hi=>hg i (by omega)⟩ fun i o hi he=>?_
   ·
    show _≤((Go.Sort.putRowK enc k (Go.Sort.ahead w m) b 0 d).heap++os).size;rw[Array.size_append];omega
   ·
    rw[hg i (Array.getElem?_eq_some_iff.1 he).1];exact he
  refine S2.imp fun g hg=>.inr ⟨b,c,sp,fr,rfl,hnc,hcap,?_,?_,hfr,hg⟩
  ·
   rw[←hfl,Array.length_toList,hsz,hl]
  ·
   rw[List.length_append,←hfl,Array.length_toList,hsz,←List.length_append,hl2]
theorem yT {α:Type}[Inhabited α]{lt:α→α→Bool}{d:Array α}(h:Go.Sort.SortedIn lt 0 d.size d):d.toList.Pairwise fun x y=>lt y x=false:=by
 rw[List.pairwise_iff_getElem];intro i j hi hj hij;have:=h i j (Nat.zero_le _) hij (by simpa using hj);rw[getElem!_pos d i (by simpa using hi),getElem!_pos d j (by simpa using hj)]at this;simpa using this
theorem D6 {α:Type}[Inhabited α]{d d':Array α}(h:Go.Sort.PermIn 0 d.size d d'):d'.size=d.size∧d'.toList.Perm d.toList:=by
 obtain⟨h1,_,h3⟩:=h;refine⟨h1,?_⟩;have e1:d'.extract 0 d.size=d':=by rw[←h1];exact Array.extract_size
 have e2:d.extract 0 d.size=d:=Array.extract_size;rwa[e1,e2]at h3
end Go.Proofs.YtkjabaihpkbfhaaGreat.K
namespace Go.Proofs.YtkjabaihpkbfhaaGreat.Wk
open Go Go.RowKit Go.Proofs.YtkjabaihpkbfhaaGreat Go.Proofs.YtkjabaihpkbfhaaGreat.K Go.Proofs Go.Shelf Go.Sort Go.Proofs.YtkjabaihpkbfhaaGreat.T
def Aj:Go.Shelf.Ren:=⟨fun | 6=>286 | 15=>175 | 14=>295 | 28=>214 | 29=>215 | 20=>297 | 21=>298 | 22=>299 | 23=>300 | 24=>301 | 25=>302 | 26=>303 | 27=>304 | 46=>305 | 47=>306 | 48=>307 | 49=>308 | 50=>309 | 57=>310 | n=>n,fun | 22=>326 | 24=>357 | 25=>397 | 3=>3 | 39=>265 | 0=>0 | 53=>208 | 55=>333 | 4=>4 | 46=>404 | 45=>403 | 50=>340 | 5=>5 | 9=>9 | 66=>409 | 70=>372 | 76=>412 | 77=>121 | n=>n,fun | n=>n⟩
theorem B6:Go.Proofs.SlLaysF0.n6 Tryz.prog Aj:={
 mixed:=(by kernel_rfl)
 f6:=⟨Tryz.f286.name,by decide,Tryz.func286.trans (congrArg some (by kernel_rfl))⟩
 f14:=⟨Tryz.f295.name,by decide,Tryz.func295.trans (congrArg some (by kernel_rfl))⟩
 f15:=Tryz.func175.trans (congrArg some (by kernel_rfl))
 f20:=⟨Tryz.f297.name,by decide,Tryz.func297.trans (congrArg some (by kernel_rfl))⟩
 f21:=⟨Tryz.f298.name,by decide,Tryz.func298.trans (congrArg some (by kernel_rfl))⟩
 f22:=⟨Tryz.f299.name,by decide,Tryz.func299.trans (congrArg some (by kernel_rfl))⟩
 f23:=⟨Tryz.f300.name,by decide,Tryz.func300.trans (congrArg some (by kernel_rfl))⟩
 f24:=⟨Tryz.f301.name,by decide,Tryz.func301.trans (congrArg some (by kernel_rfl))⟩
 f25:=⟨Tryz.f302.name,by decide,Tryz.func302.trans (congrArg some (by kernel_rfl))⟩
 f26:=⟨Tryz.f303.name,by decide,Tryz.func303.trans (congrArg some (by kernel_rfl))⟩
 f27:=⟨Tryz.f304.name,by decide,Tryz.func304.trans (congrArg some (by kernel_rfl))⟩
 f28:=Tryz.func214.trans (congrArg some (by kernel_rfl))
 f29:=Tryz.func215.trans (congrArg some (by kernel_rfl))
 f46:=⟨Tryz.f305.name,by decide,Tryz.func305.trans (congrArg some (by kernel_rfl))⟩
 f47:=Tryz.func306.trans (congrArg some (by kernel_rfl))
 f48:=Tryz.func307.trans (congrArg some (by kernel_rfl))
 f49:=⟨Tryz.f308.name,by decide,Tryz.func308.trans (congrArg some (by kernel_rfl))⟩
 f50:=⟨Tryz.f309.name,by decide,Tryz.func309.trans (congrArg some (by kernel_rfl))⟩
 f57:=⟨Tryz.f310.name,by decide,Tryz.func310.trans (congrArg some (by kernel_rfl))⟩
 t0:=Tryz.underlying0
 a0:=Tryz.isAgg0
 z0:=Tryz.sizeOf0
 v0:=Tryz.zeroValue0
 t3:=Tryz.underlying3
 a3:=Tryz.isAgg3
 z3:=Tryz.sizeOf3
 v3:=Tryz.zeroValue3
 t4:=Tryz.underlying4
 a4:=Tryz.isAgg4
 z4:=Tryz.sizeOf4
 v4:=Tryz.zeroValue4
 t5:=Tryz.underlying5
 a5:=Tryz.isAgg5
 z5:=Tryz.sizeOf5
 v5:=Tryz.zeroValue5
 t9:=Tryz.underlying9
 a9:=Tryz.isAgg9
 z9:=Tryz.sizeOf9
 v9:=Tryz.zeroValue9
 t22:=Tryz.underlying326
 a22:=Tryz.isAgg326
 z22:=Tryz.sizeOf326
 v22:=Tryz.zeroValue326
 t25:=Tryz.underlying397
 a25:=Tryz.isAgg397
 z25:=Tryz.sizeOf397
 v25:=Tryz.zeroValue397
 t39:=Tryz.underlying265
 a39:=Tryz.isAgg265
 z39:=Tryz.sizeOf265
 v39:=Tryz.zeroValue265
 t45:=Tryz.underlying403
 a45:=Tryz.isAgg403
 z45:=Tryz.sizeOf403
 v45:=Tryz.zeroValue403
 t46:=Tryz.underlying404
 a46:=Tryz.isAgg404
 z46:=Tryz.sizeOf404
 v46:=Tryz.zeroValue404
 t50:=Tryz.underlying340
 a50:=Tryz.isAgg340
 z50:=Tryz.sizeOf340
 v50:=Tryz.zeroValue340
 t53:=Tryz.underlying208
 a53:=Tryz.isAgg208
 z53:=Tryz.sizeOf208
 v53:=Tryz.zeroValue208
 t55:=Tryz.underlying333
 a55:=Tryz.isAgg333
 z55:=Tryz.sizeOf333
 v55:=Tryz.zeroValue333
 t66:=Tryz.underlying409
 a66:=Tryz.isAgg409
 z66:=Tryz.sizeOf409
 v66:=Tryz.zeroValue409
 t70:=Tryz.underlying372
 a70:=Tryz.isAgg372
 z70:=Tryz.sizeOf372
 v70:=Tryz.zeroValue372
 t76:=Tryz.underlying412
 a76:=Tryz.isAgg412
 z76:=Tryz.sizeOf412
 v76:=Tryz.zeroValue412
 t77:=Tryz.underlying121
 a77:=Tryz.isAgg121
 z77:=Tryz.sizeOf121
 v77:=Tryz.zeroValue121 }
abbrev vM:={r:bA // 1≤r.1∧r.1≤1000000000}
instance:Inhabited vM:=⟨⟨(1,1),by decide⟩⟩
def Dy (r:vM):List Value:=gP r.1
def Iz (x y:vM):Int:=x.1.1-y.1.1
theorem Js (x y:vM):ltOf Iz x y=decide (x.1.1<y.1.1):=by unfold ltOf Iz;rw[decide_eq_decide];omega
theorem JR:Go.Sort.SWO (ltOf Iz) where
 irrefl x:=by rw[Js];simp
 trans x y z h1 h2:=by rw[Js]at *;simp at *;omega
 ntrans x y z h1 h2:=by rw[Js]at *;simp at *;omega
theorem HH (x y:vM)(W:World):Calls Tryz.prog 287 #[.agg #[.int .i64 x.1.1,.int .i64 x.1.2],.agg #[.int .i64 y.1.1,.int .i64 y.1.2]] W fun e w'=>e=.returned (.int .i64 (x.1.1-y.1.1))∧∃q os',w'=grow (W.drewN q) os':=by
 have hw:IntKind.i64.wrap (x.1.1-y.1.1)=x.1.1-y.1.1:=by
  have:=x.2;have:=y.2;refine gA ?_ ?_<;>simp[IntKind.min,IntKind.max,IntKind.signed,IntKind.bits]<;>omega
 generalize x.1.1=a1 at hw ⊢
 generalize x.1.2=a2
 generalize y.1.1=b1 at hw ⊢
 generalize y.1.2=b2
 go_enter Tryz.func287,Tryz.ntmps287
 go_wp2
 go_ret
 exact⟨rfl,0,_,by rw[alloc_eq_grow,alloc_eq_grow,grow_grow];rfl⟩
theorem AJ (blk off size:Nat)(w:World):CmpLays Tryz.prog 287 #[] Dy 2 Iz blk off size w:=fun _ _ _ _ x y=>HH x y _
theorem FI {xs:List bA}(h:∀x∈xs,1≤x.1∧x.1≤x.2∧x.2≤gJ):∃gs:List vM,gs.map Subtype.val=xs:=by
 induction xs with
 | nil=>exact⟨[],rfl⟩
 | cons x xs ih =>
   obtain⟨gs,hg⟩:=ih fun y hy=>h y (by simp[hy])
   have hx:=h x (by simp);rw[dM]at hx;exact⟨⟨x,hx.1,by omega⟩::gs,by simp[hg]⟩
theorem GL (gs:List vM):gs.flatMap Dy=(gs.map Subtype.val).flatMap gP:=by rw[List.flatMap_map];rfl
theorem uM (W w:World)(L:List As)(A:Option Addr)(c:Nat)(xs:List bA)(O:Sat W w (fe 357 A c xs::L))(hv:∀x∈xs,1≤x.1∧x.1≤x.2∧x.2≤gJ)(hl:xs.length≤1000000000000) :
 Calls Tryz.prog 286 #[.slice A xs.length c,.func (.func 287) #[] #[]] w fun e w'=>e=.returned (.tuple #[])∧∃ys,ys.Perm xs∧ys.Pairwise (fun a b=>a.1≤b.1)∧Sat W w' (fe 357 A c ys::L):=by
 by_cases h0:xs=[]
 ·
  subst h0;exact (AnyF.slices_SortFunc_none B6 A c _ w).mono fun e w' ⟨he,hw⟩=>⟨he,[],.refl _,.nil,by rw[hw];exact O⟩
 ·
  have hpos:0<xs.length:=List.length_pos_iff.2 h0;obtain⟨gs,hg⟩:=FI hv;have hgl:gs.length=xs.length:=by rw[←hg];simp
  have I:∃b,A=some ⟨b,0,none⟩:=by
   obtain⟨_,h,⟨h1,h2,a,s1,s2,q,r⟩,t⟩:=O;rcases q with ⟨hv,h3,_⟩ | ⟨b',cap,sp,fr,hv,_⟩
   ·
    omega
   ·
    cases hv;exact⟨_,rfl⟩
  obtain⟨b,rfl⟩:=I;have hS2:Sat W w (row 357 2 (.slice (some ⟨b,0,none⟩) xs.length c) xs.length (gs.flatMap Dy)::L):=by rw[GL,hg];exact O
  obtain⟨hH,hb1,hb2⟩:=Eb (enc:=Dy) (fun _=>rfl) hS2 hgl.symm;have eg:∀args w,(callFunc 287 args).run Tryz.prog w=.ok (.enter 287 args) w:=enters_of Tryz.func287 (by kernel_rfl) rfl;have hcon:=AnyQ.slices_SortFunc B6 2 Tryz.isAgg357 Tryz.sizeOf357 Dy (fun _=>rfl) (fun x=>qX x.1) Iz JR 287 #[] b 0 c gs.toArray w eg (AJ _ _ _ _) hH hb2 (by simp;omega);rw[show gs.toArray.size=xs.length from by simpa using hgl]at hcon;change Calls Tryz.prog 286 _ _ _ at hcon;refine hcon.mono ?_;rintro e w' ⟨he,d',n,os,hp,hs,rfl⟩;have hsz:gs.toArray.size=xs.length:=by simpa using hgl
  rw[←hsz]at hp hs;obtain⟨hp1,hp2⟩:=D6 hp;rw[←hp1]at hs;have hs2:=yT hs;refine⟨he,d'.toList.map Subtype.val,?_,?_,?_⟩
  ·
   rw[←hg];exact (hp2.map _).trans (by simp)
  ·
   rw[List.pairwise_map];refine hs2.imp fun {x y} h=>?_;rw[Js]at h;simp at h;exact h
  ·
   have hS3:=Sat.sorted (m:=n) (enc:=Dy) (fun _=>rfl) d' os hS2 hgl.symm (by rw[hp1,hsz,hgl]);rw[GL]at hS3;exact fQ hS3 (by simp[hp1,hgl]) rfl
end Go.Proofs.YtkjabaihpkbfhaaGreat.Wk
namespace Go.Proofs.YtkjabaihpkbfhaaGreat.Wk
open Go Go.RowKit Go.Proofs.YtkjabaihpkbfhaaGreat Go.Proofs.YtkjabaihpkbfhaaGreat.K Go.Proofs.YtkjabaihpkbfhaaGreat.T
theorem aF {α:Type}{xs:List α}{i:Nat}{x:α}(h:xs[i]?=some x):xs.take (i+1)=xs.take i++[x]:=by
 have hi:=(List.getElem?_eq_some_iff.1 h).1;rw[List.take_add_one,h];rfl
theorem pT {α:Type}(ls:List (Loc α))(i:Nat):((ls.take i).flatMap Loc.xs).length≤(ls.flatMap Loc.xs).length:=by
 conv=>rhs;rw[←List.take_append_drop i ls,List.flatMap_append,List.length_append]
 omega
theorem Dp {ls:List (Loc bA)}{i:Nat}{l:Loc bA}(hl:ls[i]?=some l)(j:Nat):(fq ((ls.take i).flatMap Loc.xs++l.xs.take j)).length≤(ls.flatMap Loc.xs).length:=by
 refine Nat.le_trans (iZ _) ?_;have h1:=pT ls (i+1);rw[aF hl,List.flatMap_append,List.length_append]at h1;simp only[List.flatMap_cons,List.flatMap_nil,List.append_nil]at h1;rw[List.length_append,List.length_take];omega
theorem z1 (W:World)(A:Option Addr)(c:Nat)(ls:List (Loc bA))(hR:Rd W 1 (.slice A ls.length c) ls.length (ls.flatMap Gb))(hE:∀l∈ls,l.runs W)(hn:ls.length≤1000000000000)(ht:(ls.flatMap Loc.xs).length≤1000000000000):Calls Tryz.prog 277 #[.slice A (ls).length c] W fun e w'=>∃A' c',e=.returned (.slice A' (av (ls.flatMap Loc.xs)).length c')∧Sat W w' [fe 357 A' c' (av (ls.flatMap Loc.xs))]:=by
 refine bS Tryz.func277 [0] ?_;have O:=Sat.start W;refine uC 14 ?_;refine u1 4 (ak rfl E7) ?_;intro a I;refine wp_loop_ghost (fun (mm:Nat) a w=>∃(i:Nat) (xs:List bA) (Aa:Option Addr) (ca:Nat),Ag a 50 [(3,.slice Aa (xs).length ca),(13,.slice A (ls).length c),(14,.int .i64 ((ls.length:Nat):Int)),(15,.int .i64 ((i:Nat):Int))]∧Sat W w ([fe 357 Aa ca xs])∧(i≤ls.length)∧(xs=fq ((ls.take i).flatMap Loc.xs))∧mm=ls.length-i) ls.length ?_ ?_
 ·replace I:=I.kp [3,13,14,15] rfl;exact⟨0,[],none,0,I,(O.ba 357 2),(by omega),(by rfl),by omega⟩
 intro m a w hI;clear O I;obtain⟨i,xs,Aa,ca,I,O,hi,hx,rfl⟩:=hI;refine rC 2 I ?_;clear I a;refine aJ 0 0 (aq rfl rfl) ?_ ?_
 ·intro h16;refine uO 10 ?_;obtain⟨A_p,rfl⟩:∃q,A=some q:=(hR.sat O).au (by omega);obtain⟨l,hl⟩:∃zz_,ls[i]?=some zz_:=⟨_,List.getElem?_eq_getElem (by omega)⟩;obtain⟨la,lc,lxs⟩:=l;have hlr:ku W la lc lxs:=hE _ (List.mem_of_getElem? hl);intro a I
  have hll:lxs.length≤1000000000000:=by
   have h1:=pT ls (i+1);rw[aF hl,List.flatMap_append,List.length_append]at h1;simp only[List.flatMap_cons,List.flatMap_nil,List.append_nil]at h1;omega
  refine o1 0 I (ib (I.ev rfl) (I.ev rfl) E7 ji (by omega) (by omega)) ?_;clear I a;refine u1 6 (an rfl lh (bQ (hR.sat O) (Gc hl 0 _ rfl))) ?_;refine u1 4 (ak rfl bU) ?_;intro a I;refine wp_loop_ghost (fun (mm:Nat) a w=>∃(j:Nat) (xs:List bA) (Aa:Option Addr) (ca:Nat),Ag a 50 [(3,.slice Aa (xs).length ca),(13,.slice (some A_p) (ls).length c),(14,.int .i64 ((ls.length:Nat):Int)),(15,.int .i64 ((i:Nat):Int)),(19,.slice la (lxs).length lc),(20,.int .i64 ((lxs.length:Nat):Int)),(21,.int .i64 ((j:Nat):Int))]∧Sat W w ([fe 357 Aa ca xs])∧(j≤lxs.length)∧(xs=fq ((ls.take i).flatMap Loc.xs++lxs.take j))∧mm=lxs.length-j) lxs.length ?_ ?_
  ·replace I:=I.kp [3,13,14,15,19,20,21] rfl;exact⟨0,xs,Aa,ca,I,O,(by omega),(by rw[hx];simp),by omega⟩
  intro m a w hI;clear O I;obtain⟨j,xs,Aa,ca,I,O,hj,hx,rfl⟩:=hI;refine rC 2 I ?_;clear I a;refine aJ 0 0 (aq rfl rfl) ?_ ?_
  ·intro h22;refine uO 10 ?_;obtain⟨la_p,rfl⟩:∃q,la=some q:=(hlr.sat O).au (by omega);obtain⟨r,hr⟩:∃zz_,lxs[j]?=some zz_:=⟨_,List.getElem?_eq_getElem (by omega)⟩;have hxl:xs.length≤1000000000000:=by rw[hx];exact Nat.le_trans (Dp hl j) ht
   refine u1 0 (ix rfl rfl bU dC) ?_;refine u1 0 (aG (cs:=gP r) rfl s8 dC (fun j u e=>bQ (hlr.sat O) (eX hr j u e))) ?_;refine uN pC O ?_;clear O;intro b7 w O;refine uW (vs:=[_,_]) (cs':=[_,_]) rfl rfl dC O ?_;clear O;intro w O;refine uO 4 ?_;refine u1 0 (lS (cs:=[_,_]) rfl) ?_;refine uF rfl (BI w r) ?_;rintro e w ⟨rfl,hT⟩;replace O:Sat _ _ _:=O.ag hT;clear hT;refine uO 1 ?_;refine u1 0 (ai rfl rfl) ?_;refine j4 0 0 (ai rfl rfl) ?_ ?_
   ·intro h29;intro a I;simp only[decide_eq_true_eq]at h29;refine goN I rfl pC O ?_;clear I a O;intro b8 w O;refine uW (vs:=[_,_]) (cs':=[_,_]) rfl rfl dC O ?_;clear O;intro w O;refine uO 11 ?_;refine u1 0 (lS (cs:=[_,_]) rfl) ?_;intro a I;refine gF (vss:=[[_,_]]) I rfl rfl bU iO rfl rfl rfl (by simp) rfl O ?_;clear I a O;intro A33 w O;intro a I;refine dq I rfl rfl rfl bU iO rfl (O.p 3) (O.rd.src bU (by simp[Value.oneCell'])) (by omega) (by omega) ?_;clear I a O;intro A34 c34 w hc34 O;refine uO 5 ?_;refine u1 2 (ad rfl rfl) ?_;intro a I;replace I:=I.kp [3,13,14,15,19,20,21] rfl;have hc:gQ r=some (max r.1 1,min r.2 1000000000):=by unfold gQ;rw[dM,if_pos h29]
    have e1:=nL (a:=(ls.take i).flatMap Loc.xs++lxs.take j) hc;rw[List.append_assoc,←aF hr,←hx]at e1;refine⟨lxs.length-(j+1),by omega,j+1,xs++[(max r.1 1,min r.2 1000000000)],_,_,?_,fQ (gy O) (by simp) (by simp[gP]),by omega,e1.symm,rfl⟩;rw[List.length_append];exact I
   ·intro h29;intro a I;simp only[decide_eq_false_iff_not]at h29;refine goN I rfl pC O ?_;clear I a O;intro b8 w O;refine uW (vs:=[_,_]) (cs':=[_,_]) rfl rfl dC O ?_;clear O;intro w O;refine uO 13 ?_;refine u1 2 (ad rfl rfl) ?_;intro a I;replace I:=I.kp [3,13,14,15,19,20,21] rfl;have hc:gQ r=none:=by unfold gQ;rw[dM,if_neg h29]
    have e1:=nU (a:=(ls.take i).flatMap Loc.xs++lxs.take j) hc;rw[List.append_assoc,←aF hr,←hx]at e1;exact⟨lxs.length-(j+1),by omega,j+1,xs,_,_,I,O.drop.drop,by omega,e1.symm,rfl⟩
  ·intro h22;refine uO 11 ?_;refine u1 2 (ad rfl rfl) ?_;intro a I;replace I:=I.kp [3,13,14,15] rfl;refine⟨ls.length-(i+1),by omega,i+1,xs,_,_,I,O,by omega,?_,rfl⟩;rw[hx,List.take_of_length_le (show lxs.length≤j by omega),aF hl,List.flatMap_append];simp
 ·intro h16;obtain rfl:i=ls.length:=by omega
  intro a I;rw[List.take_length]at hx;refine rO 12 I ?_;clear I a;refine uF rfl (uM _ _ _ Aa ca xs O (fun x hq=>by rw[hx]at hq;exact oF x hq) (by rw[hx];exact Nat.le_trans (iZ _) ht)) ?_;clear O;rintro e w ⟨rfl,ys,hp,hsd,O⟩;intro a I;rw[←hp.length_eq]at I;replace hp:ys.Perm (fq (ls.flatMap Loc.xs)):=hx ▸ hp;have hyl:ys.length≤1000000000000:=by rw[hp.length_eq];exact Nat.le_trans (iZ _) ht
  refine rO 11 I ?_;clear I a;refine u1 3 (ak rfl bU) ?_;intro a I;replace I:=I.kp [10,39,40,41] rfl;refine rC 1 I ?_;clear I a;intro a I;refine wp_loop_ghost (fun (mm:Nat) a w=>∃(k:Nat) (Ao:Option Addr) (co:Nat),Ag a 50 [(10,.slice Ao (((ys.take k).foldl fZ [])).length co),(39,.slice Aa (ys).length ca),(40,.int .i64 ((ys.length:Nat):Int)),(41,.int .i64 ((k:Nat):Int))]∧Sat W w ([fe 357 Ao co ((ys.take k).foldl fZ []),fe 357 Aa ca ys])∧(k≤ys.length)∧mm=ys.length-k) ys.length ?_ ?_
  ·replace I:=I.kp [10,39,40,41] rfl;exact⟨0,none,0,I,(O.ba 357 2),(by omega),by omega⟩
  intro m a w hI;clear O I;obtain⟨k,Ao,co,I,O,hk,rfl⟩:=hI;refine rC 2 I ?_;clear I a;refine aJ 0 0 (aq rfl rfl) ?_ ?_
  ·intro h42;refine uO 10 ?_;obtain⟨Aa_p,rfl⟩:∃q,Aa=some q:=(O.p 1).rd.au (by omega);obtain⟨r,hr⟩:∃zz_,ys[k]?=some zz_:=⟨_,List.getElem?_eq_getElem (by omega)⟩;have huc:=DN hp hsd k;have hcb:∀x∈(ys.take k).foldl fZ [],0≤x.2∧x.2≤1000000000:=fun x hq=>by have:=huc.1.each x hq;rw[dM]at this;omega
   intro a I
   have hcl:((ys.take k).foldl fZ []).length≤1000000000000:=by
    have:=oc (ys.take k) [];simp at this;omega
   refine o1 0 I (ib (I.ev rfl) (I.ev rfl) bU dC (by omega) (by omega)) ?_;clear I a;refine u1 0 (aG (cs:=gP r) rfl s8 dC (fun j u e=>bQ (O.p 1).rd (eX hr j u e))) ?_;refine uN pC O ?_;clear O;intro b12 w O;refine uW (vs:=[_,_]) (cs':=[_,_]) rfl rfl dC O ?_;clear O;intro w O;refine uO 4 ?_;refine u1 0 (lS (cs:=[_,_]) rfl) ?_;refine uF rfl (Da _ _ _ Ao co ((ys.take k).foldl fZ []) r (O.p 1) hcb hcl) ?_;clear O;rintro e w ⟨A1,c1,rfl,O⟩;refine uO 5 ?_;refine u1 2 (ad rfl rfl) ?_;intro a I;replace I:=I.kp [10,39,40,41] rfl;have e1:(ys.take (k+1)).foldl fZ []=fZ ((ys.take k).foldl fZ []) r:=by rw[aF hr,List.foldl_append];rfl
   refine⟨ys.length-(k+1),by omega,k+1,A1,c1,?_,?_,by omega,rfl⟩
   ·rw[e1];exact I
   ·rw[e1];exact (O.p 1).drop
  ·intro h42;refine uO 16 ?_;refine aY ?_;have eU:(ys.take k).foldl fZ []=av (ls.flatMap Loc.xs):=by rw[List.take_of_length_le (by omega),El hp hsd]
   rw[eU]at O ⊢;exact⟨_,_,rfl,gy O⟩
theorem Hl (W:World)(B:Option Addr)(d:Nat)(A:Option Addr)(c:Nat)(xs:List bA)(hB:Rd W 1 (.slice B 1 d) 1 [.slice A xs.length c])(hR:ku W A c xs)(hl:xs.length≤1000000000000) :
 Calls Tryz.prog 277 #[.slice B 1 d] W fun e w'=>∃A' c',e=.returned (.slice A' (av xs).length c')∧Sat W w' [fe 357 A' c' (av xs)]:=by
 have h:=z1 W B d [(⟨A,c,xs⟩:Loc bA)] hB (fun l h=>by simp at h;subst h;exact hR) (by simp) (by simpa using hl);rw[show [(⟨A,c,xs⟩:Loc bA)].flatMap Loc.xs=xs from by simp]at h;exact h
theorem xx {ns:List bA}(h:∀r,ns[0]?=some r→r.1≠1):aX ns=(0,ns):=by
 cases ns with
 | nil=>rfl
 | cons r l=>rw[fV,if_neg (h r rfl)]
theorem FM {ns:List bA}{r:bA}(h:ns[0]?=some r)(h1:r.1=1):aX ns=(r.2,ns.drop 1):=by
 cases ns with
 | nil=>simp at h
 | cons x l=>simp at h;subst h;rw[fV,if_pos h1];rfl
theorem qE (l m:List bA):c4 (l++m)=c4 l+c4 m:=by
 unfold c4
 induction l with
 | nil=>simp
 | cons x l ih=>simp only[List.cons_append,List.foldr_cons,ih];omega
theorem sR {l:List bA}(h:can l)(i:Nat):0≤c4 (l.take i)∧c4 (l.take i)≤1000000000:=by
 have hc:can (l.take i):=wa (m:=l.drop i) (by rw[List.take_append_drop];exact h);refine⟨(je hc).1,?_⟩;rcases uh hc (Int.le_refl 0) (fun s hs=>by have:=(hc.each s hs).1;omega) with h | h
 ·
  rw[dM]at h;omega
 ·
  rw[h];decide
theorem aK {α:Type}{xs:List α}{i:Nat}{x:α}(h:xs[i]?=some x):xs.drop i=x::xs.drop (i+1):=by
 have hi:=(List.getElem?_eq_some_iff.1 h);rw[List.drop_eq_getElem_cons hi.1,hi.2]
theorem Af (next:Int)(r:bA)(l:List bA):lH next (r::l)=(if next<r.1 then [(next,r.1-1)] else [])++lH (r.2+1) l:=rfl
theorem CR (next:Int):lH next []=if next≤gJ then [(next,gJ)] else []:=rfl
theorem kU (W:World)(A:Option Addr)(c:Nat)(xs:List bA)(hR:ku W A c xs)(hl:xs.length≤1000000000000):Calls Tryz.prog 253 #[.slice A (xs).length c] W fun e w'=>∃A' c',e=.returned (.slice A' (av xs).length c')∧Sat W w' [fe 357 A' c' (av xs)]:=by
 refine bS Tryz.func253 [0] ?_;have O:=Sat.start W;refine uC 8 ?_;intro a I;refine nZ I rfl rfl E7 Jq rfl rfl rfl (by simp[Value.oneCell']) O ?_;clear I a O;intro A4 w O;refine uF rfl (Hl _ _ _ A c xs O.rd (hR.sat O) hl) ?_;rintro e w ⟨A1,c1,rfl,hT⟩;replace O:=O.aM hT;clear hT;refine uO 4 ?_;refine aY ?_;exact⟨_,_,rfl,gy O⟩
theorem AY (W:World)(A:Option Addr)(c:Nat)(xs:List bA)(hR:ku W A c xs)(hl:xs.length≤1000000000000):Calls Tryz.prog 243 #[.slice A (xs).length c] W fun e w'=>∃A' c',e=.returned (.tuple #[.int .i64 (aX (av xs)).1,.slice A' (aX (av xs)).2.length c'])∧Sat W w' [fe 357 A' c' (aX (av xs)).2]:=by
 refine bS Tryz.func243 [0] ?_;intro a I;refine F7 fun Q _ hQ=>?_;have O:=Sat.start W;refine rC 9 I ?_;clear I a;refine uF rfl (kU _ A c xs (hR.sat O) hl) ?_;rintro e w ⟨A1,c1,rfl,hT⟩;replace O:=O.aM hT;clear hT;have hcn1:=eI xs;have hnl1:=cK xs;generalize hns1:av xs=ns at O hcn1 hnl1 ⊢;refine uO 7 ?_;refine u1 0 (ak rfl bU) ?_;refine aJ 0 0 (aU rfl rfl) ?_ ?_
 ·intro h9;refine uO 19 ?_;intro a I;refine hQ _ _ _ ?_;refine Gv I rfl rfl rfl ?_;have eL:aX ns=(0,ns):=xx fun q hq=>by rw[List.getElem?_eq_none (by omega)]at hq;cases hq
  rw[hns1,eL];exact⟨_,_,rfl,gy O⟩
 ·intro h9;refine uO 2 ?_;obtain⟨A1_p,rfl⟩:∃q,A1=some q:=O.rd.au (by omega);obtain⟨r,hr⟩:∃zz_,ns[0]?=some zz_:=⟨_,List.getElem?_eq_getElem (by omega)⟩;refine u1 0 (ix rfl rfl bU dC) ?_;refine u1 0 (aC rfl gv) ?_;refine u1 0 (an rfl dA (bQ O.rd (eX hr 0 _ rfl))) ?_;refine aJ 0 0 (aD rfl rfl) ?_ ?_
  ·intro h15;refine uO 13 ?_;intro a I;refine hQ _ _ _ ?_;refine Gv I rfl rfl rfl ?_;have eL:aX ns=(0,ns):=xx fun q hq=>by rw[hr]at hq;cases hq;exact h15
   rw[hns1,eL];exact⟨_,_,rfl,gy O⟩
  ·intro h15;refine uO 7 ?_;intro a I;refine bf [] O (by kernel_rfl) ?_;replace O:=O.drew;refine rX [0] I ?_;clear I a;refine bF 1 [] rfl (fun w=>(ix rfl rfl bU dC)) ?_;refine bF 2 [] rfl (fun w=>(aC rfl dZ)) ?_;refine cZ 3 [4] rfl (by exact⟨[],O⟩) (fun w hT=>have O:=hT.sat;(an rfl dA (bQ O.rd (eX hr 1 _ rfl)))) ?_;refine bF 5 [] rfl (fun w=>(xi rfl rfl bU dC (by omega) (by omega))) ?_;intro a I;refine aE 6 (by kernel_rfl) ?_;refine eF I rfl rfl Ii rfl (yw _ _ _ _ (ns.drop 1) (F1 O.rd (by omega)) (by simp) (by simp;omega)) ?_;clear I a;rintro e w ⟨A2,c2,rfl,hT⟩;replace O:=O.aM hT;clear hT;refine⟨_,rfl,?_⟩;intro a I;refine⟨.inr fun _=>(by exact⟨[_],O⟩),?_⟩;refine rX [7,8] I ?_;clear I a;intro a I;refine ah (by kernel_rfl) ?_ _;refine rE 1 I ?_;clear I a;intro a I
   replace I:=I.kp [2,3] rfl;refine rC 1 I ?_;clear I a;intro a I;refine hQ _ _ _ ?_;refine Gv I rfl rfl rfl ?_;have eL:=FM hr (by omega);rw[hns1,eL];exact⟨_,_,rfl,gy O⟩
theorem AF (W:World)(A:Option Addr)(c:Nat)(xs:List bA)(hR:ku W A c xs)(hl:xs.length≤1000000000000):Calls Tryz.prog 204 #[.slice A (xs).length c] W fun e w'=>e=.returned (.int .i64 (c4 (av xs)))∧Sat W w' []:=by
 refine bS Tryz.func204 [0] ?_;intro a I;refine F7 fun Q _ hQ=>?_;have O:=Sat.start W;refine rC 14 I ?_;clear I a;refine uF rfl (kU _ A c xs (hR.sat O) hl) ?_;rintro e w ⟨A1,c1,rfl,hT⟩;replace O:=O.aM hT;clear hT;have hcn1:=eI xs;have hnl1:=cK xs;generalize hns1:av xs=ns at O hcn1 hnl1 ⊢;refine u1 4 (ak rfl bU) ?_;intro a I;refine wp_loop_ghost (fun (mm:Nat) a w=>∃(i:Nat),Ag a 23 [(3,.int .i64 (c4 (ns.take i))),(7,.slice A1 (ns).length c1),(8,.int .i64 ((ns.length:Nat):Int)),(9,.int .i64 ((i:Nat):Int))]∧Sat W w ([fe 357 A1 c1 ns])∧(i≤ns.length)∧mm=ns.length-i) ns.length ?_ ?_
 ·replace I:=I.kp [3,7,8,9] rfl;exact⟨0,I,O,(by omega),by omega⟩
 intro m a w hI;clear O I;obtain⟨i,I,O,hi,rfl⟩:=hI;refine rC 2 I ?_;clear I a;refine aJ 0 0 (aq rfl rfl) ?_ ?_
 ·intro h10;refine uO 10 ?_;obtain⟨A1_p,rfl⟩:∃q,A1=some q:=O.rd.au (by omega);obtain⟨r,hr⟩:∃zz_,ns[i]?=some zz_:=⟨_,List.getElem?_eq_getElem (by omega)⟩;have hb1:=sR hcn1 i;have hrb:=hcn1.each r (List.mem_of_getElem? hr);intro a I;rw[dM]at hrb;refine o1 0 I (ib (I.ev rfl) (I.ev rfl) bU dC (by omega) (by omega)) ?_;clear I a;refine u1 0 (aG (cs:=gP r) rfl s8 dC (fun j u e=>bQ O.rd (eX hr j u e))) ?_;refine uN pC O ?_;clear O;intro b5 w O;refine uW (vs:=[_,_]) (cs':=[_,_]) rfl rfl dC O ?_;clear O;intro w O;refine uO 4 ?_;refine u1 0 (aa rfl dZ) ?_;refine u1 0 (ld rfl) ?_;refine u1 0 (aa rfl gv) ?_;refine u1 0 (ld rfl) ?_;refine u1 0 (sb rfl rfl) ?_;refine u1 0 (ad rfl rfl) ?_;refine u1 5 (ad rfl rfl) ?_;refine u1 2 (ad rfl rfl) ?_;intro a I;replace I:=I.kp [3,7,8,9] rfl
  have e1:c4 (ns.take (i+1))=c4 (ns.take i)+(r.2-r.1+1):=by rw[aF hr,qE];simp[c4]
  refine⟨ns.length-(i+1),by omega,i+1,?_,O.drop,by omega,rfl⟩;rw[e1];exact I
 ·intro h10;refine uO 16 ?_;intro a I;refine hQ _ _ _ ?_;refine EC I rfl rfl ?_;have e1:ns.take i=ns:=List.take_of_length_le (by omega);rw[e1,hns1];exact⟨rfl,O.nil⟩
theorem xT (W:World)(A:Option Addr)(c:Nat)(xs:List bA)(hR:ku W A c xs)(hl:xs.length≤1000000000000)(hc:can xs):Calls Tryz.prog 403 #[.slice A (xs).length c] W fun e w'=>∃A' c',e=.returned (.slice A' (lH 1 xs).length c')∧Sat W w' [fe 357 A' c' (lH 1 xs)]:=by
 refine bS Tryz.func403 [0] ?_;have O:=Sat.start W;refine uC 19 ?_;refine u1 4 (ak rfl bU) ?_;intro a I;refine wp_loop_ghost (fun (mm:Nat) a w=>∃(i:Nat) (next:Int) (out:List bA) (Ao:Option Addr) (co:Nat),Ag a 37 [(3,.slice Ao (out).length co),(4,.int .i64 next),(7,.slice A (xs).length c),(8,.int .i64 ((xs.length:Nat):Int)),(9,.int .i64 ((i:Nat):Int))]∧Sat W w ([fe 357 Ao co out])∧(i≤xs.length)∧(1≤next)∧(next≤1000000001)∧(out.length≤i)∧(out++lH next (xs.drop i)=lH 1 xs)∧mm=xs.length-i) xs.length ?_ ?_
 ·replace I:=I.kp [3,4,7,8,9] rfl;exact⟨0,1,[],none,0,I,(O.ba 357 2),(by omega),(by omega),(by omega),(by simp),(by rfl),by omega⟩
 intro m a w hI;clear O I;obtain⟨i,next,out,Ao,co,I,O,hi,hn1,hn2,hol,ho,rfl⟩:=hI;refine rC 2 I ?_;clear I a;refine aJ 0 0 (aq rfl rfl) ?_ ?_
 ·intro h10;refine uO 10 ?_;obtain⟨A_p,rfl⟩:∃q,A=some q:=(hR.sat O).au (by omega);obtain⟨r,hr⟩:∃zz_,xs[i]?=some zz_:=⟨_,List.getElem?_eq_getElem (by omega)⟩;have hrb:=hc.each r (List.mem_of_getElem? hr);intro a I;rw[dM]at hrb;refine o1 0 I (ib (I.ev rfl) (I.ev rfl) bU dC (by omega) (by omega)) ?_;clear I a;refine u1 0 (aG (cs:=gP r) rfl s8 dC (fun j u e=>bQ (hR.sat O) (eX hr j u e))) ?_;refine uN pC O ?_;clear O;intro b6 w O;refine uW (vs:=[_,_]) (cs':=[_,_]) rfl rfl dC O ?_;clear O;intro w O;refine uO 6 ?_;refine u1 0 (aa rfl gv) ?_;refine u1 0 (ld rfl) ?_;refine aJ 0 0 (aq rfl rfl) ?_ ?_
  ·intro h16;refine uO 6 ?_;refine u1 0 (aa rfl gv) ?_;refine u1 0 (ld rfl) ?_;refine u1 0 (sb rfl rfl) ?_;intro a I;refine o1 0 I (ar I rfl kP) ?_;clear I a;intro a I;refine gF (vss:=[[_,_]]) I rfl rfl bU iO rfl rfl rfl (by simp) rfl O ?_;clear I a O;intro A23 w O;intro a I;refine dq I rfl rfl rfl bU iO rfl (O.p 2) (O.rd.src bU (by simp[Value.oneCell'])) (by omega) (by omega) ?_;clear I a O;intro A24 c24 w hc24 O;refine uO 4 ?_;refine u1 0 (aa rfl dZ) ?_;refine u1 0 (ld rfl) ?_;refine u1 5 (ad rfl rfl) ?_;refine u1 2 (ad rfl rfl) ?_;intro a I;replace I:=I.kp [3,4,7,8,9] rfl;rw[aK hr,Af,if_pos h16,←List.append_assoc]at ho;refine⟨xs.length-(i+1),by omega,i+1,r.2+1,out++[(next,r.1-1)],A24,c24,?_,fQ (gy O) (by simp) (by simp[gP]),by omega,by omega,by omega,by simp;omega,ho,rfl⟩
   rw[List.length_append];exact I
  ·intro h16;refine uO 6 ?_;refine u1 0 (aa rfl dZ) ?_;refine u1 0 (ld rfl) ?_;refine u1 5 (ad rfl rfl) ?_;refine u1 2 (ad rfl rfl) ?_;intro a I;replace I:=I.kp [3,4,7,8,9] rfl;rw[aK hr,Af,if_neg h16,List.nil_append]at ho;exact⟨xs.length-(i+1),by omega,i+1,r.2+1,out,Ao,co,I,O.drop,by omega,by omega,by omega,by omega,ho,rfl⟩
 ·intro h10;refine uO 13 ?_;refine aJ 0 0 (dD rfl rfl) ?_ ?_
  ·intro h30;refine uO 2 ?_;intro a I;replace I:=I.kp [3,4,30] rfl;refine rC 4 I ?_;clear I a;intro a I;refine o1 0 I (ar I rfl kP) ?_;clear I a;intro a I;refine gF (vss:=[[_,_]]) I rfl rfl bU iO rfl rfl rfl (by simp) rfl O ?_;clear I a O;intro A34 w O;intro a I;refine dq I rfl rfl rfl bU iO rfl (O.p 1) (O.rd.src bU (by simp[Value.oneCell'])) (by omega) (by omega) ?_;clear I a O;intro A35 c35 w hc35 O;refine uO 10 ?_;refine aY ?_;rw[List.drop_of_length_le (by omega),CR,dM,if_pos h30]at ho;rw[←ho];exact⟨_,_,p3 (by simp),fQ (gy O) (by simp) (by simp[gP])⟩
  ·intro h30;refine uO 2 ?_;intro a I;replace I:=I.kp [3,4,30] rfl;refine rC 10 I ?_;clear I a;refine aY ?_;rw[List.drop_of_length_le (by omega),CR,dM,if_neg h30,List.append_nil]at ho;rw[←ho];exact⟨_,_,rfl,O⟩
theorem pw {x y:List bA}{i j:Nat}{p q:bA}(hp:x[i]?=some p)(hq:y[j]?=some q):dV (x.drop i) (y.drop j)=(if max p.1 q.1≤min p.2 q.2 then [(max p.1 q.1,min p.2 q.2)] else [])++(if p.2<q.2 then dV (x.drop (i+1)) (y.drop j) else dV (x.drop i) (y.drop (j+1))):=by
 rw[aK hp,aK hq,p5]
theorem DT {x y:List bA}{i j:Nat}(h:x.length≤i):dV (x.drop i) (y.drop j)=[]:=by rw[List.drop_of_length_le h];cases y.drop j<;>simp[dV]
theorem Ed {x y:List bA}{i j:Nat}(h:y.length≤j):dV (x.drop i) (y.drop j)=[]:=by rw[List.drop_of_length_le h,w6]
theorem BB (W:World)(A:Option Addr)(c:Nat)(xs:List bA)(B:Option Addr)(d:Nat)(ys:List bA)(hX:ku W A c xs)(hY:ku W B d ys)(hlx:xs.length≤1000000000000)(hly:ys.length≤1000000000000):Calls Tryz.prog 402 #[.slice A (xs).length c,.slice B (ys).length d] W fun e w'=>∃A' c',e=.returned (.slice A' (dV (av xs) (av ys)).length c')∧Sat W w' [fe 357 A' c' (dV (av xs) (av ys))]:=by
 refine bS Tryz.func402 [0,1] ?_;intro a I;refine F7 fun Q _ hQ=>?_;have O:=Sat.start W;refine rC 8 I ?_;clear I a;refine uF rfl (kU _ A c xs (hX.sat O) hlx) ?_;rintro e w ⟨A1,c1,rfl,hT⟩;replace O:=O.aM hT;clear hT;have hcn1:=eI xs;have hnl1:=cK xs;generalize hns1:av xs=ns at O hcn1 hnl1 ⊢;refine uO 1 ?_;refine uF rfl (kU _ B d ys (hY.sat O) hly) ?_;rintro e w ⟨A2,c2,rfl,hT⟩;replace O:=O.aM hT;clear hT;have hcn2:=eI ys;have hnl2:=cK ys;generalize hns2:av ys=ms at O hcn2 hnl2 ⊢;refine uO 17 ?_;intro a I
 refine wp_loop_ghost (fun (mm:Nat) a w=>∃(i j:Nat) (out:List bA) (Ao:Option Addr) (co:Nat),Ag a 73 [(5,.slice A1 (ns).length c1),(6,.slice A2 (ms).length c2),(7,.slice Ao (out).length co),(8,.int .i64 ((i:Nat):Int)),(9,.int .i64 ((j:Nat):Int))]∧Sat W w ([fe 357 Ao co out,fe 357 A2 c2 ms,fe 357 A1 c1 ns])∧(i≤ns.length)∧(j≤ms.length)∧(out.length≤i+j)∧(out++dV (ns.drop i) (ms.drop j)=dV ns ms)∧mm=ns.length+ms.length-(i+j)) (ns.length+ms.length) ?_ ?_
 ·replace I:=I.kp [5,6,7,8,9] rfl;exact⟨0,0,[],none,0,I,(O.ba 357 2),(by omega),(by omega),(by simp),(by rfl),by omega⟩
 intro m a w hI;clear O I;obtain⟨i,j,out,Ao,co,I,O,hi,hj,hol,ho,rfl⟩:=hI;refine rC 5 I ?_;clear I a;refine u1 0 (ak rfl bU) ?_;refine aJ 0 0 (aq rfl rfl) ?_ ?_
 ·intro h18;refine uO 3 ?_;refine u1 0 (ak rfl bU) ?_;refine aJ 0 0 (aq rfl rfl) ?_ ?_
  ·intro h23;obtain⟨p,hp⟩:∃p,ns[i]?=some p:=⟨_,List.getElem?_eq_getElem (by omega)⟩;obtain⟨q,hq⟩:∃q,ms[j]?=some q:=⟨_,List.getElem?_eq_getElem (by omega)⟩;obtain⟨A1_p,rfl⟩:∃q,A1=some q:=(O.p 2).rd.au (by omega);obtain⟨A2_p,rfl⟩:∃q,A2=some q:=(O.p 1).rd.au (by omega);refine uO 8 ?_;intro a I;refine bf [24] O (by kernel_rfl) ?_;replace O:=O.drew;refine rX [0,1] I ?_;clear I a
   refine bF 2 [] rfl (fun w=>(ix rfl rfl bU dC)) ?_;refine bF 3 [] rfl (fun w=>(aC rfl gv)) ?_;refine cZ 4 [5,6] rfl (by exact⟨[],O⟩) (fun w hT=>have O:=hT.sat;(an rfl dA (bQ (O.p 2).rd (eX hp 0 _ rfl)))) ?_;refine bF 7 [] rfl (fun w=>(ix rfl rfl bU dC)) ?_;refine bF 8 [] rfl (fun w=>(aC rfl gv)) ?_;refine cZ 9 [] rfl (by exact⟨[],O⟩) (fun w hT=>have O:=hT.sat;(an rfl dA (bQ (O.p 1).rd (eX hq 0 _ rfl)))) ?_;refine bF 10 [11,12] rfl (fun w=>(uL rfl rfl)) ?_;refine bF 13 [] rfl (fun w=>(ix rfl rfl bU dC)) ?_;refine bF 14 [] rfl (fun w=>(aC rfl dZ)) ?_;refine cZ 15 [16,17] rfl (by exact⟨[],O⟩) (fun w hT=>have O:=hT.sat;(an rfl dA (bQ (O.p 2).rd (eX hp 1 _ rfl)))) ?_;refine bF 18 [] rfl (fun w=>(ix rfl rfl bU dC)) ?_;refine bF 19 [] rfl (fun w=>(aC rfl dZ)) ?_;refine cZ 20 [] rfl (by exact⟨[],O⟩) (fun w hT=>have O:=hT.sat;(an rfl dA (bQ (O.p 1).rd (eX hq 1 _ rfl)))) ?_;refine bF 21 [] rfl (fun w=>(yy rfl rfl)) ?_
   intro a I;refine P1 22 [] I rfl (fun w=>(ar I rfl kP)) ?_;clear I a;intro a I;refine aE 23 (by kernel_rfl) ?_;refine eN I rfl rfl pC O ?_;clear I a O;intro b10 w O;intro a I;refine⟨.inr fun _=>(by exact⟨[_],O⟩),?_⟩;refine aE 24 (by kernel_rfl) ?_;refine cH (vs:=[_,_]) (cs':=[_,_]) I rfl rfl rfl dC (by simp[Value.oneCell']) O rfl rfl ?_;clear O;intro w O;refine⟨.inl rfl,?_⟩;refine ah (by kernel_rfl) ?_ _;refine rE 4 I ?_;clear I a;refine u1 0 (aa rfl gv) ?_;refine u1 0 (ld rfl) ?_;refine u1 0 (aa rfl dZ) ?_;refine u1 0 (ld rfl) ?_;refine aJ 0 0 (dD rfl rfl) ?_ ?_
   ·intro h52;refine uO 5 ?_;refine u1 0 (lS (cs:=[_,_]) rfl) ?_;intro a I;refine gF (vss:=[[_,_]]) I rfl rfl bU iO rfl rfl rfl (by simp) rfl O ?_;clear I a O;intro A55 w O;intro a I;refine dq I rfl rfl rfl bU iO rfl (O.p 2) (O.rd.src bU (by simp[Value.oneCell'])) (by omega) (by omega) ?_;clear I a O;intro A56 c56 w hc56 O;refine uO 4 ?_;intro a I;refine cF (fun w'=>Sat _ w' _) (by kernel_rfl) (by kernel_rfl) O.drew ?_;refine rQ 2 I ?_;clear I a;refine bj 0 (fun w O=>(ix rfl rfl bU dC)) ?_;refine bj 0 (fun w O=>(aC rfl dZ)) ?_;refine bj 2 (fun w O=>(an rfl dA (bQ (O.p 4).rd (eX hp 1 _ rfl)))) ?_;refine bj 0 (fun w O=>(ix rfl rfl bU dC)) ?_;refine bj 0 (fun w O=>(aC rfl dZ)) ?_;refine bj 0 (fun w O=>(an rfl dA (bQ (O.p 3).rd (eX hq 1 _ rfl)))) ?_
    intro a I;refine K.sE I rfl rfl rfl (fun w O=>(aq (I.ev rfl) (I.ev rfl))) ?_ ?_
    ·clear I a;intro h67;intro a I;refine wpQuiet_nil ?_;clear O;intro w O;refine rE 4 I ?_;clear I a;refine u1 3 (ad rfl rfl) ?_;intro a I;replace I:=I.kp [5,6,7,8,9] rfl;rw[pw hp hq,if_pos h52,if_pos h67,←List.append_assoc]at ho;refine⟨ns.length+ms.length-(i+1+(j)),by omega,i+1,j,out++[(max p.1 q.1,min p.2 q.2)],A56,c56,?_,fQ (sJ (((O.p 4).p 4).p 2)) (by simp) (by simp[gP]),by omega,by omega,by simp;omega,ho,rfl⟩;rw[List.length_append];exact I
    ·clear I a;intro h67;intro a I;refine wpQuiet_nil ?_;clear O;intro w O;refine rE 4 I ?_;clear I a;refine u1 3 (ad rfl rfl) ?_;intro a I;replace I:=I.kp [5,6,7,8,9] rfl;rw[pw hp hq,if_pos h52,if_neg h67,←List.append_assoc]at ho;refine⟨ns.length+ms.length-(i+(j+1)),by omega,i,j+1,out++[(max p.1 q.1,min p.2 q.2)],A56,c56,?_,fQ (sJ (((O.p 4).p 4).p 2)) (by simp) (by simp[gP]),by omega,by omega,by simp;omega,ho,rfl⟩;rw[List.length_append];exact I
   ·intro h52;refine uO 6 ?_;intro a I;refine cF (fun w'=>Sat _ w' _) (by kernel_rfl) (by kernel_rfl) O.drew ?_;refine rQ 2 I ?_;clear I a;refine bj 0 (fun w O=>(ix rfl rfl bU dC)) ?_;refine bj 0 (fun w O=>(aC rfl dZ)) ?_;refine bj 2 (fun w O=>(an rfl dA (bQ (O.p 3).rd (eX hp 1 _ rfl)))) ?_;refine bj 0 (fun w O=>(ix rfl rfl bU dC)) ?_;refine bj 0 (fun w O=>(aC rfl dZ)) ?_;refine bj 0 (fun w O=>(an rfl dA (bQ (O.p 2).rd (eX hq 1 _ rfl)))) ?_;intro a I;refine K.sE I rfl rfl rfl (fun w O=>(aq (I.ev rfl) (I.ev rfl))) ?_ ?_
    ·clear I a;intro h67;intro a I;refine wpQuiet_nil ?_;clear O;intro w O;refine rE 4 I ?_;clear I a;refine u1 3 (ad rfl rfl) ?_;intro a I;replace I:=I.kp [5,6,7,8,9] rfl;rw[pw hp hq,if_neg h52,if_pos h67,List.nil_append]at ho;exact⟨ns.length+ms.length-(i+1+(j)),by omega,i+1,j,out,Ao,co,I,O.drop,by omega,by omega,by omega,ho,rfl⟩
    ·clear I a;intro h67;intro a I;refine wpQuiet_nil ?_;clear O;intro w O;refine rE 4 I ?_;clear I a;refine u1 3 (ad rfl rfl) ?_;intro a I;replace I:=I.kp [5,6,7,8,9] rfl;rw[pw hp hq,if_neg h52,if_neg h67,List.nil_append]at ho;exact⟨ns.length+ms.length-(i+(j+1)),by omega,i,j+1,out,Ao,co,I,O.drop,by omega,by omega,by omega,ho,rfl⟩
  ·intro h23;refine uO 9 ?_;intro a I;replace I:=I.kp [7] rfl;refine rC 7 I ?_;clear I a;intro a I;refine hQ _ _ _ ?_;refine EC I rfl rfl ?_;rw[Ed (by omega),List.append_nil]at ho;rw[hns1,hns2,←ho];exact⟨_,_,rfl,gy O⟩
 ·intro h18;refine uO 14 ?_;intro a I;replace I:=I.kp [7] rfl;refine rC 7 I ?_;clear I a;intro a I;refine hQ _ _ _ ?_;refine EC I rfl rfl ?_;rw[DT (by omega),List.append_nil]at ho;rw[hns1,hns2,←ho];exact⟨_,_,rfl,gy O⟩
theorem sO (W:World)(A:Option Addr)(c:Nat)(xs:List bA)(B:Option Addr)(d:Nat)(ys:List bA)(hX:ku W A c xs)(hY:ku W B d ys)(hlx:xs.length≤100000000000)(hly:ys.length≤100000000000):Calls Tryz.prog 388 #[.slice A (xs).length c,.slice B (ys).length d] W fun e w'=>∃A' c',e=.returned (.slice A' (eB (av xs) (av ys)).length c')∧Sat W w' [fe 357 A' c' (eB (av xs) (av ys))]:=by
 refine bS Tryz.func388 [0,1] ?_;intro a I;refine F7 fun Q _ hQ=>?_;have O:=Sat.start W;refine rC 9 I ?_;clear I a;refine uF rfl (kU _ B d ys (hY.sat O) (by omega)) ?_;rintro e w ⟨A1,c1,rfl,hT⟩;replace O:=O.aM hT;clear hT;have hcn1:=eI ys;have hnl1:=cK ys;generalize hns1:av ys=ns at O hcn1 hnl1 ⊢;refine uF rfl (xT _ A1 c1 ns O.rd (by omega) hcn1) ?_;rintro e w ⟨A2,c2,rfl,hT⟩;replace O:=O.aM hT;clear hT;refine uF rfl (BB _ A c xs A2 c2 (lH 1 ns) (hX.sat O) O.rd (by omega) (Nat.le_trans (qd ns 1) (by omega))) ?_;rintro e w ⟨A3,c3,rfl,hT⟩;replace O:=O.aM hT;clear hT;refine uO 4 ?_;intro a I;refine hQ _ _ _ ?_;refine EC I rfl rfl ?_;rw[vH (xE hcn1)]at O ⊢;rw[hns1];exact⟨_,_,rfl,gy O⟩
theorem yq (W:World)(A:Option Addr)(c:Nat)(xs:List bA)(B:Option Addr)(d:Nat)(ys:List bA)(hX:ku W A c xs)(hY:ku W B d ys)(hlx:xs.length≤100000000000)(hly:ys.length≤100000000000):Calls Tryz.prog 370 #[.slice A (xs).length c,.slice B (ys).length d] W fun e w'=>e=.returned (.bool (decide (eB (av xs) (av ys)=[])))∧Sat W w' []:=by
 refine bS Tryz.func370 [0,1] ?_;have O:=Sat.start W;refine uC 9 ?_;refine uF rfl (sO _ A c xs B d ys (hX.sat O) (hY.sat O) hlx hly) ?_;rintro e w ⟨A3,c3,rfl,hT⟩;replace O:=O.aM hT;clear hT;refine u1 0 (ak rfl bU) ?_;refine u1 4 (aU rfl rfl) ?_;refine aY ?_;refine⟨?_,O.nil⟩
 congr 2
 rw[decide_eq_decide];constructor
 ·intro h;exact List.eq_nil_of_length_eq_zero (by omega)
 ·intro h;rw[h];rfl
def gW (vec:List Int)(p:Option aL)(s:aL):Bool:=decide (0≤s.rep) && decide (s.rep<16) && decide (s.lo≤s.hi) && decide (s.hi≤1000000000) && match p with
 | none=>decide (ay vec s.rep.toNat+2≤s.lo)
 | some q=>decide (q.rep≤s.rep) && (if q.rep=s.rep then decide (q.hi+2≤s.lo) else decide (ay vec s.rep.toNat+2≤s.lo))
structure DP (p:aI):Prop where
 len:p.vec.length≤16
 vec:∀v∈p.vec,0≤v∧v≤1000000000
 ab:kJ (gW p.vec) none p.ab=true
structure zm (p:aI):Prop extends DP p where
 last:∀v,p.vec.getLast?=some v→v≠0
theorem dv {v:List Int}(h:∀x∈v,0≤x∧x≤1000000000)(r:Nat):0≤ay v r∧ay v r≤1000000000:=by
 unfold ay;cases e:v[r]? with
 | none=>simp
 | some x=>exact h x (List.mem_of_getElem? e)
theorem qZ {vec:List Int}:∀ {c:List aL} {p:Option aL},kJ (gW vec) p c=true→∀s∈c,0≤s.rep∧s.rep<16∧s.lo≤s.hi∧s.hi≤1000000000
 | s :: c, p, h, t, ht => by
   rw[kJ,Bool.and_eq_true]at h;rcases List.mem_cons.1 ht with rfl | ht
   ·
    have h1:=h.1;unfold gW at h1;simp only[Bool.and_eq_true,decide_eq_true_eq]at h1;exact⟨h1.1.1.1.1,h1.1.1.1.2,h1.1.1.2,h1.1.2⟩
   ·
    exact qZ h.2 t ht
theorem qG {vec:List Int}(hv:∀r,0≤ay vec r):∀ {c:List aL} {q:aL},kJ (gW vec) (some q) c=true→q.lo≤q.hi→ay vec q.rep.toNat+2≤q.lo→∀s∈c,q.rep≤s.rep∧(q.rep=s.rep→q.hi+2≤s.lo)∧ay vec s.rep.toNat+2≤s.lo
 | s :: c, q, h, hq, hq2, t, ht => by
   rw[kJ,Bool.and_eq_true]at h;have h1:=h.1;unfold gW at h1;simp only[Bool.and_eq_true,decide_eq_true_eq]at h1
   have hs:ay vec s.rep.toNat+2≤s.lo:=by
    by_cases e:q.rep=s.rep
    ·
     have:=h1.2.2;rw[if_pos e]at this;simp at this;rw[←e];omega
    ·
     have:=h1.2.2;rw[if_neg e]at this;simpa using this
   have hs2:q.rep=s.rep→q.hi+2≤s.lo:=fun e=>by have:=h1.2.2;rw[if_pos e]at this;simpa using this
   rcases List.mem_cons.1 ht with rfl | ht
   ·
    exact⟨h1.2.1,hs2,hs⟩
   ·
    obtain⟨a,b,d⟩:=qG hv h.2 h1.1.1.2 hs t ht;refine⟨by omega,fun e=>?_,d⟩;have e1:q.rep=s.rep:=by omega
    have:=hs2 e1;have:=b (by omega);omega
theorem tX {vec:List Int}(hv:∀r,0≤ay vec r){c:List aL}(h:kJ (gW vec) none c=true):∀s∈c,ay vec s.rep.toNat+2≤s.lo:=by
 cases c with
 | nil=>intro s hs;cases hs
 | cons s c =>
   rw[kJ,Bool.and_eq_true]at h;have h1:=h.1;unfold gW at h1;simp only[Bool.and_eq_true,decide_eq_true_eq]at h1;intro t ht;rcases List.mem_cons.1 ht with rfl | ht
   ·
    exact h1.2
   ·
    exact (qG hv h.2 h1.1.1.2 h1.2 t ht).2.2
theorem ny (s:aL)(c:List aL)(r:Nat):bR (s::c) r=(if s.rep=(r:Int) then [(s.lo,s.hi)] else [])++bR c r:=by
 unfold bR;rw[List.filterMap_cons]
 split<;>rename_i h<;>split at h<;>simp_all
theorem o2 {c:List aL}{r:Nat}{x:bA}(h:x∈bR c r):∃s∈c,s.rep=(r:Int)∧x=(s.lo,s.hi):=by
 obtain⟨s,hs,h⟩:=List.mem_filterMap.1 h
 split at h
 ·
  rename_i e;cases h;exact⟨s,hs,e,rfl⟩
 ·
  cases h
theorem sU {vec:List Int}(hv:∀r,0≤ay vec r):∀ {c:List aL} {p:Option aL},kJ (gW vec) p c=true→(∀s∈c,ay vec s.rep.toNat+2≤s.lo)→∀r,can (bR c r)
 | [],_,_,_,r=>trivial
 | s :: c, p, h, hb, r => by
   have hsp:=qZ h s (by simp);rw[kJ,Bool.and_eq_true]at h;have ih:=sU hv h.2 (fun t ht=>hb t (by simp[ht])) r;rw[ny]
   by_cases e:s.rep=(r:Int)
   ·
    rw[if_pos e];have hs:=hb s (by simp);have:=hv s.rep.toNat;refine⟨by simp only;omega,by simp only;omega,by rw[dM];simp only;omega,fun x hx=>?_,ih⟩;obtain⟨t,ht,h1,rfl⟩:=o2 hx;have:=(qG hv h.2 hsp.2.2.1 hs t ht).2.1 (by omega);simp only;omega
   ·
    rw[if_neg e];exact ih
def qb (p:aI)(r:Nat):List bA:=(if 0<ay p.vec r then [(1,ay p.vec r)] else [])++bR p.ab r
theorem tL {p:aI}(h:DP p)(r:Nat):can (qb p r):=by
 have hv:=fun r=>dv h.vec r
 have hb:=tX (fun r=>(hv r).1) h.ab;have hc:=sU (fun r=>(hv r).1) h.ab hb r;unfold qb
 split
 ·
  rename_i h0;refine⟨Int.le_refl _,by simp only;omega,by rw[dM];have:=(hv r).2;simp only;omega,fun x hx=>?_,hc⟩;obtain⟨s,hs,e,rfl⟩:=o2 hx;have:=hb s hs;rw[e]at this;simp at this;simp only;omega
 ·
  exact hc
theorem sM {p:aI}(h:DP p)(r:Nat):aP p r=qb p r:=by
 refine (oY (tL h r) fun n=>?_).symm;constructor
 ·
  intro hn;have hb:=(tL h r).bounds hn;refine⟨hb.1,hb.2,?_⟩;unfold qb at hn;unfold cR;rw[dR]at *;rcases hn with hn | hn
  ·
   left
   split at hn
   ·
    rename_i h0;unfold ay at h0 hn;cases e:p.vec[r]? with
    | none=>rw[e]at h0;simp at h0
    | some x=>rw[e]at hn;simpa using hn
   ·
    simp[bJ]at hn
  ·
   exact .inr hn
 ·
  rintro ⟨h1,h2,hn⟩;unfold qb;unfold cR at hn;rw[dR]at *;rcases hn with hn | hn
  ·
   left
   cases e:p.vec[r]? with
   | none=>rw[e]at hn;simp[bJ]at hn
   | some x =>
     rw[e]at hn;have hx:ay p.vec r=x:=by unfold ay;rw[e]
     rw[hx];simp[bJ]at hn;rw[if_pos (by omega)];simp[bJ];omega
  ·
   exact .inr hn
theorem xj {p:aI}(h:DP p)(r:Nat):aX (qb p r)=(ay p.vec r,bR p.ab r):=by
 have hv:=fun r=>dv h.vec r
 unfold qb
 split
 ·
  rfl
 ·
  rename_i h0;have h0:ay p.vec r=0:=by have:=(hv r).1;omega
  rw[List.nil_append,h0];cases e:bR p.ab r with
  | nil=>rfl
  | cons x l =>
    rw[fV];have hx:x∈bR p.ab r:=by rw[e];simp
    obtain⟨s,hs,e2,rfl⟩:=o2 hx;have:=tX (fun r=>(hv r).1) h.ab s hs;rw[e2]at this;simp at this;rw[if_neg (by simp only;omega)]
theorem eK {v:List Int}{r:Nat}(h:v.length≤r):ay v r=0:=by unfold ay;rw[List.getElem?_eq_none h]
theorem ux {v:List Int}(hv:∀x∈v,0≤x∧x≤1000000000)(hl:∀x,v.getLast?=some x→x≠0){f:Nat→Int}(hf:∀r,f r=ay v r):∀k,v.length≤k→cJ f k=v.length
 | 0, h => by have : v.length = 0 := by omega
              rw[this];rfl
 | k + 1, h => by
   rw[cJ]
   by_cases e:v.length=k+1
   ·
    have hk:k<v.length:=by omega
    have h1:v.getLast?=some v[k]:=by rw[List.getLast?_eq_getElem?,e];simp[hk]
    have h2:=hl _ h1;have h3:=hv v[k] (List.getElem_mem hk);have h4:f k=v[k]:=by rw[hf,ay,List.getElem?_eq_getElem hk]
    rw[if_pos (by omega),e]
   ·
    have h4:f k=0:=by rw[hf,eK (by omega)]
    rw[if_neg (by omega)];exact ux hv hl hf k (by omega)
theorem oA {α β:Type _}{l:List α}{f g:α→List β}(h:∀x∈l,f x=g x):l.flatMap f=l.flatMap g:=by
 induction l with
 | nil=>rfl
 | cons x l ih=>rw[List.flatMap_cons,List.flatMap_cons,h x (by simp),ih fun y hy=>h y (by simp[hy])]
theorem vf:∀(c:List aL) (a k:Nat),(∀s∈c,(a:Int)≤s.rep∧s.rep<(a+k:Nat))→c.Pairwise (fun s t=>s.rep≤t.rep)→(List.range' a k).flatMap (fun r=>(bR c r).map fun x=>(⟨(r:Int),x.1,x.2⟩:aL))=c
 | [], a, k, _, _ => by
   rw[List.flatMap_eq_nil_iff];intro r _;rfl
 | s :: c, a, k, h, hp => by
   obtain⟨j,hj⟩:∃j:Nat,s.rep=(j:Int):=⟨s.rep.toNat,by have:=(h s (by simp)).1;omega⟩;have hs:=h s (by simp);have hle:=(List.pairwise_cons.1 hp).1
   have e1:List.range' a k=List.range' a (j-a)++(List.range' j 1++List.range' (j+1) (a+k-j-1)):=by
    have h1:k=(j-a)+(1+(a+k-j-1)):=by omega
    have h2:a+1 * (j-a)=j:=by omega
    conv=>lhs;rw[h1,←List.range'_append,h2,←List.range'_append,Nat.mul_one]
   have e2:List.range' j (a+k-j)=List.range' j 1++List.range' (j+1) (a+k-j-1):=by
    have h1:a+k-j=1+(a+k-j-1):=by omega
    conv=>lhs;rw[h1,←List.range'_append,Nat.mul_one]
   have ih:=vf c j (a+k-j) (fun t ht=>by have:=hle t ht;have:=(h t (by simp[ht])).2;omega) (List.pairwise_cons.1 hp).2;rw[e1,List.flatMap_append]
   have z:(List.range' a (j-a)).flatMap (fun r=>(bR (s::c) r).map fun x=>(⟨(r:Int),x.1,x.2⟩:aL))=[]:=by
    rw[List.flatMap_eq_nil_iff];intro r hr;rw[List.mem_range'_1]at hr;rw[List.map_eq_nil_iff];refine List.filterMap_eq_nil_iff.2 fun t ht=>?_;rw[if_neg];rcases List.mem_cons.1 ht with rfl | ht
    ·
     omega
    ·
     have:=hle t ht;omega
   rw[z,List.nil_append,List.flatMap_append];rw[e2,List.flatMap_append]at ih
   have y:(List.range' (j+1) (a+k-j-1)).flatMap (fun r=>(bR (s::c) r).map fun x=>(⟨(r:Int),x.1,x.2⟩:aL))=(List.range' (j+1) (a+k-j-1)).flatMap (fun r=>(bR c r).map fun x=>(⟨(r:Int),x.1,x.2⟩:aL)):=by
    refine oA fun r hr=>?_;rw[List.mem_range'_1]at hr;rw[ny,if_neg (by omega),List.nil_append]
   rw[y];simp only[List.range'_one,List.flatMap_cons,List.flatMap_nil,List.append_nil]at ih ⊢;rw[ny,if_pos hj,List.map_append,List.append_assoc,ih,←hj]
   rfl
theorem zb {vec:List Int}(hv:∀r,0≤ay vec r):∀ {c:List aL} {p:Option aL},kJ (gW vec) p c=true→(∀s∈c,ay vec s.rep.toNat+2≤s.lo)→c.Pairwise (fun s t=>s.rep≤t.rep)
 | [],_,_,_=>.nil
 | s :: c, p, h, hb => by
   have hsp:=qZ h s (by simp);rw[kJ,Bool.and_eq_true]at h;exact .cons (fun t ht=>(qG hv h.2 hsp.2.2.1 (hb s (by simp)) t ht).1) (zb hv h.2 fun t ht=>hb t (by simp[ht]))
theorem zq {p:aI}(h:zm p):gS p=p:=by
 have hw:=h.toDP;have hv:=fun r=>dv hw.vec r
 have hl:∀r,bw (aP p) r=ay p.vec r:=fun r=>by unfold bw;rw[sM hw,xj hw]
 have hr:∀r,aR (aP p) r=(bR p.ab r).map fun x=>(⟨(r:Int),x.1,x.2⟩:aL):=fun r=>by unfold aR;rw[sM hw,xj hw]
 unfold gS fR
 have e1:(List.range (cJ (bw (aP p)) 16)).map (bw (aP p))=p.vec:=by
  rw[ux hw.vec h.last hl 16 hw.len];refine List.ext_getElem? fun i=>?_;rw[List.getElem?_map]
  by_cases hi:i<p.vec.length
  ·
   rw[List.getElem?_range hi,List.getElem?_eq_getElem hi];simp only[Option.map_some];rw[hl,ay,List.getElem?_eq_getElem hi]
  ·
   rw[List.getElem?_eq_none (by simpa using hi),List.getElem?_eq_none (by omega)];rfl
 have e2:(List.range 16).flatMap (aR (aP p))=p.ab:=by
  rw[List.range_eq_range',oA (g:=fun r=>(bR p.ab r).map fun x=>(⟨(r:Int),x.1,x.2⟩:aL)) fun r _=>hr r];exact vf p.ab 0 16 (fun s hs=>by have:=qZ hw.ab s hs;omega) (zb (fun r=>(hv r).1) hw.ab (tX (fun r=>(hv r).1) hw.ab))
 rw[e1,e2]
theorem Ak {vec:List Int}{r:Nat}(hr:r<16):∀ {l:List bA} {p:Option aL} {t:List aL},can l→(∀s∈l,ay vec r+2≤s.1)→(∀q,p=some q→q.rep≤(r:Int)∧(q.rep=(r:Int)→∀s∈l,q.hi+2≤s.1))→
 (∀p':Option aL,(∀q,p'=some q→q.rep≤(r:Int))→kJ (gW vec) p' t=true)→kJ (gW vec) p (l.map (fun s=>(⟨(r:Int),s.1,s.2⟩:aL))++t)=true
 | [],p,t,_,_,hp,ht=>ht p fun q hq=>(hp q hq).1
 | s :: l, p, t, hl, hv, hp, ht => by
   rw[List.map_cons,List.cons_append,kJ,Bool.and_eq_true];refine⟨?_,Ak hr hl.tail (fun x hx=>hv x (by simp[hx])) (fun q hq=>?_) ht⟩
   ·
    have h2:=hl.2.1;have h3:=hl.2.2.1;rw[dM]at h3;have hv0:=hv s (by simp);unfold gW;simp only[Bool.and_eq_true,decide_eq_true_eq,Int.toNat_natCast];refine⟨⟨⟨⟨by omega,by omega⟩,h2⟩,h3⟩,?_⟩;cases p with
    | none=>simpa using hv0
    | some q =>
      obtain⟨a,b⟩:=hp q rfl;simp only[Bool.and_eq_true,decide_eq_true_eq];refine⟨a,?_⟩
      split
      ·
       rename_i e;simpa using b e s (by simp)
      ·
       simpa using hv0
   ·
    cases hq;refine⟨Int.le_refl _,fun _ x hx=>?_⟩;have:=hl.2.2.2.1 x hx;simp only;omega
theorem xz {vec:List Int}{f:Nat→List bA}(hf:∀r,can (f r))(hv:∀r,r<16→ay vec r=(aX (f r)).1):∀(k a:Nat),a+k=16→∀p:Option aL,(∀q,p=some q→q.rep<(a:Int))→kJ (gW vec) p ((List.range' a k).flatMap (aR f))=true
 | 0,a,_,p,_=>by simp[kJ]
 | k + 1, a, ha, p, hp => by
   rw[List.range'_succ,List.flatMap_cons];obtain⟨_,_,hc,hb,_⟩:=o0 (hf a);refine Ak (by omega) hc (fun s hs=>by rw[hv a (by omega)];have:=hb s hs;omega) (fun q hq=>⟨by have:=hp q hq;omega,fun e=>by have:=hp q hq;omega⟩) fun p' hp'=>?_;exact xz hf hv k (a+1) (by omega) p' fun q hq=>by have:=hp' q hq;omega
theorem vG {f:Nat→List bA}(hf:∀r,can (f r)):zm (fR f):=by
 have hvec:∀r,r<16→ay (fR f).vec r=(aX (f r)).1:=fun r hr=>by
  unfold fR ay;simp only[List.getElem?_map]
  by_cases h:r<cJ (bw f) 16
  ·
   rw[List.getElem?_range h];rfl
  ·
   rw[List.getElem?_eq_none (by simpa using h)];have h1:=qe (bw f) 16 r (by omega) hr;have h2:=(o0 (hf r)).1;unfold bw at h1;show 0=_;omega
 refine⟨⟨?_,fun v hv=>?_,?_⟩,fun v hv=>?_⟩
 ·
  show ((List.range _).map _).length≤16;have:=mP (bw f) 16;simpa using this
 ·
  obtain⟨r,_,rfl⟩:=List.mem_map.1 hv;have h:=o0 (hf r);rw[dM]at h;exact⟨h.1,h.2.1⟩
 ·
  show kJ _ none ((List.range 16).flatMap (aR f))=true;rw[List.range_eq_range'];exact xz hf hvec 16 0 rfl none fun q hq=>by cases hq
 ·
  have hv:((List.range (cJ (bw f) 16)).map (bw f)).getLast?=some v:=hv;rw[List.getLast?_eq_getElem?,List.getElem?_map]at hv;simp only[List.length_map,List.length_range]at hv;obtain⟨j,hj,rfl⟩:=Option.map_eq_some_iff.1 hv
  have h0:0<cJ (bw f) 16:=by
   have:=(List.getElem?_eq_some_iff.1 hj).1;simp at this;omega
  rw[List.getElem?_range (by omega)]at hj;cases hj;have:=xq (bw f) 16 h0;omega
theorem i6 (p:aI):zm (gS p):=vG fun r=>bG p r
theorem EO {p:aI}:gS p=p↔zm p:=⟨fun h=>h ▸ i6 p,zq⟩
theorem jT {p:aI}:bg p=true↔zm p:=by unfold bg;rw[decide_eq_true_eq,EO]
theorem v7 {a b:aI}(h1:a.vec=b.vec)(h2:a.ab=b.ab):a=b:=by cases a;cases b;simp only at h1 h2;subst h1 h2;rfl
def Loc.v {α:Type}(l:Loc α):Value:=.slice l.a l.xs.length l.c
def Loc.jF (e:Nat)(l:Loc bA):As:=fe e l.a l.c l.xs
abbrev kj (ty t:Nat)(ls:List (Loc bA)):As:=a6 t (.cells (ls.map Loc.v).toArray ty (0,0))
theorem rN {ls:List (Loc bA)}{i e:Nat}{l:Loc bA}(h:ls[i]?=some l):(ls.map (Loc.jF e))[i]?=some (Loc.jF e l):=by rw[List.getElem?_map,h];rfl
theorem gR {W w:World}{L:List As}{ty t i k:Nat}{ls:List (Loc bA)}{l:Loc bA}(s:Sat W w (kj ty t ls::L))(h:ls[i]?=some l)(hk:k=i:=by simp):w.cell? ⟨t,k,none⟩=some (.slice l.a l.xs.length l.c):=by
 subst hk;exact s.pJ (by simp[h,Loc.v])
theorem tu {W w:World}{L:List As}{e i:Nat}{ls:List (Loc bA)}{l l':Loc bA}(h:ls[i]?=some l)(s:Sat W w (Loc.jF e l'::bB ((ls.map (Loc.jF e)).eraseIdx i)::L)):Sat W w (bB ((ls.set i l').map (Loc.jF e))::L):=by
 rw[List.map_set];exact Sat.u6 (by rw[List.length_map];exact (List.getElem?_eq_some_iff.1 h).1) s
theorem sn {W w:World}{L:List As}{e i:Nat}{ls:List (Loc bA)}{l:Loc bA}(s:Sat W w (bB (ls.map (Loc.jF e))::L))(h:ls[i]?=some l):ku w l.a l.c l.xs:=(s.dU (rN h)).rd
section
variable {P:Program} {ops:Array Oper} {a:Act} {n:Nat} {E:Env} {w W:World} {rest:List Oper} {Q:Exit→Act→World→Prop} {L:List As} {t ty:TypeId} {ps:String} {af:Array Edge} {x y:Operand} {ds:List Deferred}
theorem eT {q:Nat}{K:Act→World→Prop}{tb i t':Nat}{p:Addr}{v:Value}{ls:List (Loc bA)}{l:Loc bA}(l':Loc bA)(I:Ag a n E ds)(hi':ops[q]?=some ⟨none,.store t x y,ty,ps,af,none⟩)(hx:fE E x=some (.pointer (some p)))(hp:p=⟨tb,i,none⟩)(hy:fE E y=some v)(hv:v=l'.v)(ht:flat P t=true)(h1:(P.info? t).map (·.size)=some 1)
 (s:Sat W w (kj t' tb ls::L)) (hi:ls[i]?=some l) (k:∀w',Sat W w' (kj t' tb (ls.set i l')::L)→K a w'):wpOp P ops Q q K a w:=by
 subst hp hv;refine eW I hi' hx hy ht h1 rfl s (u:=l.v) (by rw[mj];simp[hi]) fun w' h=>k w' ?_;rw[kj,List.map_set];simpa using h
end
def fU (ps:List aI)(r:Nat):List bA:=ps.flatMap fun p=>cR p r
def gZ (ls:List (Loc bA))(f:Nat→List bA):Prop:=ls.length=16∧∀r l,ls[r]?=some l→l.xs=f r
theorem gZ.get {ls:List (Loc bA)}{f:Nat→List bA}(h:gZ ls f){r:Nat}(hr:r<16):∃A c,ls[r]?=some ⟨A,c,f r⟩:=by
 have hl:r<ls.length:=by rw[h.1];exact hr
 have:=h.2 r ls[r] (List.getElem?_eq_getElem hl);refine⟨ls[r].a,ls[r].c,?_⟩;rw[List.getElem?_eq_getElem hl,←this]
theorem gZ.set {ls:List (Loc bA)}{f g:Nat→List bA}(h:gZ ls f){r:Nat}{l:Loc bA}(hl:l.xs=g r)(hg:∀k,k<16→k≠r→g k=f k):gZ (ls.set r l) g:=by
 refine⟨by rw[List.length_set];exact h.1,fun k x hx=>?_⟩;have hk:k<16:=by have:=(List.getElem?_eq_some_iff.1 hx).1;rw[List.length_set,h.1]at this;exact this
 by_cases e:r=k
 ·
  subst e;rw[List.getElem?_set_self (by rw[h.1];exact hk)]at hx;cases hx;exact hl
 ·
  rw[List.getElem?_set_ne e]at hx;rw[h.2 k x hx,hg k hk (Ne.symm e)]
theorem gZ.congr {ls:List (Loc bA)}{f g:Nat→List bA}(h:gZ ls f)(hg:∀k,k<16→f k=g k):gZ ls g:=⟨h.1,fun r l hl=>by
 have hr:r<16:=by have:=(List.getElem?_eq_some_iff.1 hl).1;rw[h.1]at this;exact this
 rw[h.2 r l hl,hg r hr]⟩
def nW (v:List Int)(j r:Nat):List bA:=if r<j then (match v[r]? with | some x=>[(1,x)] | none=>[]) else []
theorem D4 {v:List Int}{j r:Nat}(hr:r<16)(hj:min v.length 16≤j):nW v j r=match v[r]? with | some x=>[(1,x)] | none=>[]:=by
 unfold nW
 split
 ·
  rfl
 ·
  rename_i h;rw[List.getElem?_eq_none (by omega)]
theorem Hu (p:aI){r j k:Nat}(hr:r<16)(hj:min p.vec.length 16≤j)(hk:p.ab.length≤k):nW p.vec j r++bR (p.ab.take k) r=cR p r:=by
 unfold cR;rw[D4 hr hj,List.take_of_length_le hk];cases p.vec[r]?<;>rfl
theorem AX {v:List Int}{j:Nat}{x:Int}(h:v[j]?=some x):(∀r,r≠j→nW v (j+1) r=nW v j r)∧nW v (j+1) j=nW v j j++[(1,x)]:=by
 unfold nW;refine⟨fun r hr=>?_,by simp[h]⟩
 by_cases h1:r<j
 ·
  rw[if_pos h1,if_pos (by omega)]
 ·
  rw[if_neg h1,if_neg (by omega)]
theorem Br {c:List aL}{k:Nat}{s:aL}(h:c[k]?=some s)(r:Nat):bR (c.take (k+1)) r=bR (c.take k) r++if s.rep=(r:Int) then [(s.lo,s.hi)] else []:=by
 rw[List.take_add_one,h,om]
 congr 1
 show bR [s] r=_;unfold bR
 by_cases e:s.rep=(r:Int)
 ·
  simp[e]
 ·
  simp[e]
theorem AW (ps:List aI)(p:aI)(r:Nat):fU (ps++[p]) r=fU ps r++cR p r:=by simp[fU]
theorem eC (p:aI)(r:Nat):(cR p r).length≤p.ab.length+1:=by
 unfold cR bR;rw[List.length_append];have:=List.length_filterMap_le (fun s:aL=>if s.rep=(r:Int) then some (s.lo,s.hi) else none) p.ab
 split<;>simp<;>omega
def dm (ps:List aI):Nat:=(ps.map fun p=>p.ab.length+1).sum
theorem kG (ps:List aI)(r:Nat):(fU ps r).length≤dm ps:=by
 induction ps with
 | nil=>simp[fU,dm]
 | cons p ps ih =>
   have:=eC p r;unfold fU dm at *;simp only[List.flatMap_cons,List.length_append,List.map_cons,List.sum_cons];omega
theorem wS {ps:List aI}{i:Nat}{p:aI}(h:ps[i]?=some p):dm (ps.take i)+(p.ab.length+1)≤dm ps:=by
 conv=>rhs;rw[←List.take_append_drop i ps]
 have e:ps.drop i=p::ps.drop (i+1):=by
  have hi:=List.getElem?_eq_some_iff.1 h;rw[List.drop_eq_getElem_cons hi.1,hi.2]
 rw[e];unfold dm;rw[List.map_append,List.sum_append,List.map_cons,List.sum_cons];omega
def xv:Loc bA:=⟨none,0,[]⟩
theorem sm {W w:World}{L:List As}(e:Nat)(s:Sat W w L):∀n,Sat W w (bB ((List.replicate n xv).map (Loc.jF e))::L)
 | 0=>s.gX
 | n+1=>((sm e s n).ba e 2).pf
theorem sS:gZ (List.replicate 16 xv) (fun _=>[]):=⟨by simp,fun r l h=>by
 have:=List.mem_of_getElem? h;rw[List.eq_of_mem_replicate this];rfl⟩
def du (T:List aI)(d:aI)(j k r:Nat):List bA:=fU T r++(nW d.vec j r++bR (d.ab.take k) r)
theorem r6 (T:List aI)(d:aI)(r:Nat):du T d 0 0 r=fU T r:=by simp[du,nW,bR]
theorem mJ {T:List aI}{d:aI}{j:Nat}{v:Int}(h:d.vec[j]?=some v):(∀r,r≠j→du T d (j+1) 0 r=du T d j 0 r)∧du T d (j+1) 0 j=du T d j 0 j++[(1,v)]:=by
 obtain⟨h1,h2⟩:=AX h;unfold du;refine⟨fun r hr=>by rw[h1 r hr],by rw[h2];simp[bR]⟩
theorem fk {T:List aI}{d:aI}{j k:Nat}{s:aL}(h:d.ab[k]?=some s)(r:Nat):du T d j (k+1) r=du T d j k r++if s.rep=(r:Int) then [(s.lo,s.hi)] else []:=by
 unfold du;rw[Br h r];simp only[List.append_assoc]
theorem ov {T:List aI}{d:aI}{r k:Nat}(hr:r<16)(hk:d.ab.length≤k):du T d (min d.vec.length 16) k r=fU (T++[d]) r:=by
 unfold du;rw[AW,Hu d hr (Nat.le_refl _) hk]
theorem C2 (v:List Int)(j r:Nat):(nW v j r).length≤1:=by
 unfold nW
 split
 ·
  split<;>simp
 ·
  simp
theorem zJ (c:List aL)(r:Nat):(bR c r).length≤c.length:=List.length_filterMap_le _ _
theorem oO (T:List aI)(d:aI)(j k r:Nat):(du T d j k r).length≤dm T+(d.ab.length+1):=by
 unfold du;have h1:=kG T r;have h2:=zJ (d.ab.take k) r;have h3:=C2 d.vec j r;rw[List.length_take]at h2;rw[List.length_append,List.length_append];omega
theorem lv {ps:List PL}{i:Nat}{p:PL}(h:ps[i]?=some p):(ps.map PL.d)[i]?=some p.d:=by rw[List.getElem?_map,h];rfl
theorem Ej {W0 W w:World}{L0 M:List As}{ty t i k:Nat}{ls:List (Loc bA)}{l:Loc bA}(s0:Sat W0 W (kj ty t ls::L0))(s:Sat W w M)(h:ls[i]?=some l)(hk:k=i:=by simp):w.cell? ⟨t,k,none⟩=some (.slice l.a l.xs.length l.c):=by
 have h0:=gR s0 h hk;rw[s.below.cell (World.block_lt_of_cell? _ _ h0)];exact h0
theorem Hx {f:Nat→Int}{r:Nat}(hr:r<16)(x:Int)(hx:x=f r):(((List.range r).map f++List.replicate (16-r) 0).map (Value.int .i64)).set r (.int .i64 x)=((List.range (r+1)).map f++List.replicate (16-(r+1)) 0).map (Value.int .i64):=by
 subst hx;rw[show Value.int .i64 (f r)=Value.int .i64 (f r) from rfl,←List.map_set]
 congr 1
 rw[List.set_append_right _ _ (by simp),List.range_succ,List.map_append,List.append_assoc]
 congr 1
 obtain⟨k,hk⟩:∃k,16-r=k+1:=⟨16-r-1,by omega⟩;rw[hk,show 16-(r+1)=k from by omega,List.replicate_succ];simp
theorem mO (f:Nat→List bA)(r:Nat):(List.range (r+1)).flatMap (aR f)=(List.range r).flatMap (aR f)++aR f r:=by
 rw[List.range_succ,List.flatMap_append];simp
def j5 (r:Nat)(x:bA):aL:=⟨(r:Int),x.1,x.2⟩
theorem rS (f:Nat→List bA)(r:Nat):aR f r=(aX (f r)).2.map (j5 r):=rfl
theorem wR {w:World}{A:Option Addr}{n c m:Nat}{cs:List Value}(h:Rd w 1 (.slice A n c) n cs)(hm:m≤n):Rd w 1 (.slice (jW A c 1 0) m c) m (cs.take m):=by
 have:=Rd.IU h m hm;rwa[Nat.mul_one]at this
theorem F3 {f:Nat→Int}{r:Nat}(hr:r<16):(((List.range r).map f++List.replicate (16-r) 0).map (Value.int .i64))[r]?=some (.int .i64 0):=by
 rw[List.getElem?_map,List.getElem?_append_right (by simp)];obtain⟨k,hk⟩:∃k,16-r=k+1:=⟨16-r-1,by omega⟩;rw[hk];simp[List.replicate_succ]
theorem BY {f:Nat→Int}{r:Nat}(hr:r≤16):(((List.range r).map f++List.replicate (16-r) 0).map (Value.int .i64)).length=16:=by simp;omega
theorem yO {f:Nat→Int}{m:Nat}(hm:m≤16):(((List.range 16).map f++List.replicate (16-16) 0).map (Value.int .i64)).take m=((List.range m).map f).map (Value.int .i64):=by
 rw[Nat.sub_self,List.replicate_zero,List.append_nil,←List.map_take,←List.map_take,List.take_range,Nat.min_eq_left hm]
theorem r5 {fr:Nat→List bA}{B:Nat}(hb:∀r,r<16→(fr r).length≤B):∀r,r≤16→((List.range r).flatMap (aR fun r=>av (fr r))).length≤r * B
 | 0,_=>by simp
 | r + 1, h => by
   have h1:=r5 hb r (by omega);have h2:=hb r (by omega);have h3:=cK (fr r);have h4:=lU (av (fr r));rw[mO,rS,List.length_append,List.length_map,Nat.add_mul];omega
theorem tm (p:aI):∀r,0≤((List.range r).map fun r=>c4 (aP p r)).sum∧((List.range r).map fun r=>c4 (aP p r)).sum≤(r:Int) * 1000000000
 | 0=>by simp
 | r + 1 => by
   have h:=tm p r;have h1:=(je (bG p r)).1
   have h2:c4 (aP p r)≤1000000000:=by
    rcases uh (bG p r) (Int.le_refl 0) (fun s hs=>by have:=((bG p r).each s hs).1;omega) with h | h
    ·
     rw[dM]at h;omega
    ·
     rw[h];decide
   rw[List.range_succ,List.map_append,List.sum_append];simp only[List.map_cons,List.map_nil,List.sum_cons,List.sum_nil];omega
theorem sr (p:aI)(r:Nat):((List.range (r+1)).map fun r=>c4 (aP p r)).sum=((List.range r).map fun r=>c4 (aP p r)).sum+c4 (av (cR p r)):=by
 rw[List.range_succ,List.map_append,List.sum_append];simp[aP]
theorem DW {a b:aI}{r:Nat}(hr:r<16)(h:¬eB (av (cR a r)) (av (cR b r))=[]):ck a b=false:=by
 unfold ck;rw[List.all_eq_false];exact⟨r,List.mem_range.2 hr,fun hd=>h (of_decide_eq_true hd)⟩
theorem Bp {a b:aI}(h:∀r,r<16→eB (av (cR a r)) (av (cR b r))=[]):ck a b=true:=by
 unfold ck;rw[List.all_eq_true];intro r hr;exact decide_eq_true (h r (List.mem_range.1 hr))
theorem zn {xs:List bA}(y:List bA)(h:xs.length=0):eB (av xs) y=[]:=by
 obtain rfl:=List.eq_nil_of_length_eq_zero h;show dV (av []) _=[];simp[av,dV]
def lf (l:List gC)(r:Nat):List bA:=l.filterMap fun d=>if dK d.rep d.num=true∧d.rep=(r:Int) then some (d.num,d.num) else none
theorem oM {l:List gC}{i:Nat}{d:gC}(h:l[i]?=some d)(r:Nat):lf (l.take (i+1)) r=lf (l.take i) r++if dK d.rep d.num=true∧d.rep=(r:Int) then [(d.num,d.num)] else []:=by
 rw[List.take_add_one,h];unfold lf;rw[List.filterMap_append]
 congr 1
 by_cases e:dK d.rep d.num=true∧d.rep=(r:Int)
 ·
  rw[if_pos e];simp only[Option.toList,List.filterMap_cons,List.filterMap_nil,if_pos e]
 ·
  rw[if_neg e];simp only[Option.toList,List.filterMap_cons,List.filterMap_nil,if_neg e]
theorem vB (l:List gC)(r:Nat):(lf l r).length≤l.length:=List.length_filterMap_le _ _
def nv (fr:Nat→List bA):aI:=fR fun r=>av (fr r)
theorem Dl (l:List gC):nv (lf l)=mg l:=by
 unfold nv mg gS aP;refine qt fun r hr=>zI fun n h1 h2=>?_;unfold cR;simp only[List.getElem?_nil,List.nil_append];unfold lf bR bJ;constructor
 ·
  rintro ⟨x,hx,h3,h4⟩;obtain⟨d,hd,he⟩:=List.mem_filterMap.1 hx
  split at he
  ·
   rename_i hc;cases he;exact⟨_,List.mem_filterMap.2 ⟨⟨d.rep,d.num,d.num⟩,List.mem_map.2 ⟨d,hd,rfl⟩,if_pos hc.2⟩,h3,h4⟩
  ·
   cases he
 ·
  rintro ⟨x,hx,h3,h4⟩;obtain⟨s,hs,he⟩:=List.mem_filterMap.1 hx;obtain⟨d,hd,rfl⟩:=List.mem_map.1 hs
  split at he
  ·
   rename_i hc;cases he;simp only at h3 h4 hc;refine⟨_,List.mem_filterMap.2 ⟨d,hd,if_pos ⟨?_,hc⟩⟩,h3,h4⟩;unfold dK;rw[dM]at h2;simp only[Bool.and_eq_true,decide_eq_true_eq];omega
  ·
   cases he
theorem jP (p:aI):(gS p).ab.length≤16 * (p.ab.length+1):=by
 have:=r5 (fr:=cR p) (B:=p.ab.length+1) (fun r _=>eC p r) 16 (Nat.le_refl _);exact this
theorem oD:∀(k:Nat) (x y:List bA),x.length+y.length≤k→(dV x y).length≤x.length+y.length
 | _,[],y,_=>by simp[dV]
 | _,_::_,[],_=>by simp[dV]
 | 0,_::_,_::_,h=>by simp at h
 | k + 1, a :: x, b :: y, h => by
   simp only[List.length_cons]at h;rw[p5,List.length_append];have h1:=oD k x (b::y) (by simp only[List.length_cons];omega);have h2:=oD k (a::x) y (by simp only[List.length_cons];omega);simp only[List.length_cons]at h1 h2 ⊢
   split<;>split<;>simp<;>omega
theorem nE (a b:aI)(r:Nat):(eB (aP a r) (aP b r)).length≤a.ab.length+b.ab.length+3:=by
 unfold eB;have h1:=oD _ (aP a r) (lH 1 (aP b r)) (Nat.le_refl _);have h2:=qd (aP b r) 1;have h3:=cK (cR a r);have h4:=cK (cR b r);have h5:=eC a r;have h6:=eC b r;unfold aP at *;omega
def oH (a b:aI)(r k:Nat):List bA:=if k<r then eB (aP a k) (aP b k) else cR a k
theorem Ft (a b:aI)(r:Nat):oH a b r r=cR a r:=if_neg (Nat.lt_irrefl r)
theorem D8 (a b:aI)(r:Nat):oH a b (r+1) r=eB (aP a r) (aP b r):=if_pos (Nat.lt_succ_self r)
theorem DD {a b:aI}{r k:Nat}(h:k≠r):oH a b (r+1) k=oH a b r k:=by
 unfold oH
 by_cases h1:k<r
 ·
  rw[if_pos h1,if_pos (by omega)]
 ·
  rw[if_neg h1,if_neg (by omega)]
theorem AN (a b:aI):nv (oH a b 16)=ke a b:=by
 unfold nv ke;refine qt fun r hr=>?_;unfold oH;rw[if_pos hr,vH (kN (bG a r) (bG b r))]
theorem Fz {a b:aI}(ha:a.ab.length≤10000000000)(hb:b.ab.length≤10000000000):∀r,r<16→(oH a b 16 r).length≤100000000000:=fun r hr=>by
 unfold oH;rw[if_pos hr];have:=nE a b r;omega
theorem vD (W:World)(A:Option Addr)(c:Nat)(ps:List PL)(hR:Bi W A c ps)(hE:∀p∈ps,p.ok W)(hn:ps.length≤1000000000000)(ht:dm (ps.map PL.d)≤1000000000000):Calls Tryz.prog 191 #[.slice A (ps).length c] W fun e w'=>∃t ls,e=.returned (.pointer (some ⟨t,0,none⟩))∧gZ ls (fU (ps.map PL.d))∧Sat W w' [kj 355 t ls,bB (ls.map (Loc.jF 357))]:=by
 refine bS Tryz.func191 [0] ?_;have O:=Sat.start W;refine uC 7 ?_;intro a I;refine o1 0 I (ar I rfl EE) ?_;clear I a;refine uB rfl O ?_;clear O;intro b10 w O;refine uO 7 ?_;refine u1 4 (ak rfl fF) ?_;intro a I;refine wp_loop_ghost (fun (mm:Nat) a w=>∃(i:Nat) (ls:List (Loc bA)),Ag a 78 [(3,.pointer (some ⟨b10,0,none⟩)),(11,.slice A (ps).length c),(12,.int .i64 ((ps.length:Nat):Int)),(13,.int .i64 ((i:Nat):Int))]∧Sat W w ([kj 355 b10 ls,bB (ls.map (Loc.jF 357))])∧(i≤ps.length)∧(gZ ls (fU ((ps.map PL.d).take i)))∧mm=ps.length-i) ps.length ?_ ?_
 ·replace I:=I.kp [3,11,12,13] rfl;have hS1:Sat W w [kj 355 b10 (List.replicate 16 xv),bB ((List.replicate 16 xv).map (Loc.jF 357))]:=(sm 357 O 16).p 1;exact⟨0,_,I,hS1,(by omega),(by exact sS),by omega⟩
 intro m a w hI;clear O I;obtain⟨i,ls,I,O,hi,hT,rfl⟩:=hI;refine rC 2 I ?_;clear I a;refine aJ 0 0 (aq rfl rfl) ?_ ?_
 ·intro h14;refine uO 10 ?_;obtain⟨A_p,rfl⟩:∃q,A=some q:=(hR.sat O).au (by omega);obtain⟨p,hp⟩:∃zz_,ps[i]?=some zz_:=⟨_,List.getElem?_eq_getElem (by omega)⟩;have hpo:=hE p (List.mem_of_getElem? hp);have hsp:=wS (lv hp);obtain⟨va,vc,ca,cc,d⟩:=p;have hpv:kY W va vc d.vec:=hpo.vec;have hpc:jk W ca cc d.ab:=hpo.ab;intro a I;dsimp only at hsp;refine o1 0 I (ib (I.ev rfl) (I.ev rfl) fF aO (by omega) (by omega)) ?_;clear I a;refine u1 0 (aG (cs:=s4 (⟨va,vc,ca,cc,d⟩:PL)) rfl cS aO (fun j u e=>bQ (hR.sat O) (kT hp j u e))) ?_;refine uN cY O ?_;clear O;intro b5 w O;refine uW (vs:=[_,_]) (cs':=[_,_]) rfl rfl aO O ?_;clear O;intro w O;refine uO 5 ?_;refine u1 0 (aa rfl cD) ?_;refine u1 0 (ld rfl) ?_;refine u1 0 (ak rfl ax) ?_;refine u1 4 (yy rfl rfl) ?_;intro a I
  refine wp_loop_ghost (fun (mm:Nat) a w=>∃(j:Nat) (ls:List (Loc bA)),Ag a 78 [(3,.pointer (some ⟨b10,0,none⟩)),(11,.slice (some A_p) (ps).length c),(12,.int .i64 ((ps.length:Nat):Int)),(13,.int .i64 ((i:Nat):Int)),(5,.pointer (some ⟨b5,0,none⟩)),(20,.int .i64 (min (d.vec.length:Int) 16)),(21,.int .i64 ((j:Nat):Int))]∧Sat W w ([a6 b5 (.cells #[.slice va d.vec.length vc,.slice ca d.ab.length cc] 63),kj 355 b10 ls,bB (ls.map (Loc.jF 357))])∧(j≤min d.vec.length 16)∧(gZ ls (du ((ps.map PL.d).take i) d j 0))∧mm=min d.vec.length 16-j) (min d.vec.length 16) ?_ ?_
  ·replace I:=I.kp [3,11,12,13,5,20,21] rfl;exact⟨0,_,I,O,(by omega),(by exact hT.congr fun r hr=>(r6 _ d r).symm),by omega⟩
  intro m a w hI;clear O I;obtain⟨j,ls,I,O,hj,hT,rfl⟩:=hI;refine rC 2 I ?_;clear I a;refine aJ 0 0 (aq rfl rfl) ?_ ?_
  ·intro h22;obtain⟨lA,lc,hl⟩:=hT.get (show j<16 by omega);have hlen:=oO ((ps.map PL.d).take i) d j 0 j;intro a I;replace O:Sat W w (fe 357 lA lc (du ((ps.map PL.d).take i) d j 0 j)::_):=(O.p 2).dU (rN hl);refine rO 14 I ?_;clear I a;intro a I;refine bf [14,17] O (by kernel_rfl) ?_;replace O:=O.drew;refine rX [0,1,2,3] I ?_;clear I a;refine bF 4 [] rfl (fun w=>(bc rfl)) ?_;refine bF 5 [] rfl (fun w=>(iA rfl rfl l6 ji)) ?_;refine cZ 6 [] rfl (by exact⟨[],O⟩) (fun w hT=>have O:=hT.sat;(an rfl lh (gR (O.p 3) hl))) ?_;refine bF 7 [] rfl (fun w=>(aa rfl cD)) ?_;refine cZ 8 [9] rfl (by exact⟨[],O⟩) (fun w hT=>have O:=hT.sat;(ld rfl)) ?_;obtain⟨va_p,rfl⟩:∃q,va=some q:=(hpv.sat O).au (by omega);obtain⟨v,hv⟩:∃zz_,d.vec[j]?=some zz_:=⟨_,List.getElem?_eq_getElem (by omega)⟩
   refine bF 10 [] rfl (fun w=>(ix rfl rfl ax eP)) ?_;refine cZ 11 [] rfl (by exact⟨[],O⟩) (fun w hT=>have O:=hT.sat;(an rfl dA (fP (hpv.sat O) (bu hv)))) ?_;intro a I;refine P1 12 [] I rfl (fun w=>(ar I rfl kP)) ?_;clear I a;refine bF 15 [] rfl (fun w=>(bc rfl)) ?_;intro a I;refine aE 13 (by kernel_rfl) ?_;refine xP (vss:=[[_,_]]) I rfl rfl rfl bU iO rfl rfl rfl (by simp) rfl O ?_;clear I a O;intro A37 w O;intro a I;refine⟨.inr fun _=>(by exact⟨[_],O⟩),?_⟩;refine aE 14 (by kernel_rfl) ?_;refine eA I rfl rfl rfl rfl bU iO rfl (O.p 1) (O.rd.src bU (by simp[Value.oneCell'])) (by omega) (by omega) ?_;clear I a O;intro A38 c38 w hc38 O;intro a I;refine⟨.inl rfl,?_⟩;refine P1 16 [] I rfl (fun w=>(fG (I.ev rfl) (I.ev rfl) l6 ji (by omega) (by omega))) ?_;clear I a;intro a I
   refine aE 17 (by kernel_rfl) ?_;refine eT (i:=j) ⟨A38,c38,du ((ps.map PL.d).take i) d j 0 j++[(1,v)]⟩ I rfl rfl (by simp) rfl (by simp[Loc.v]) lh ji (O.p 4) hl ?_;clear O;intro w O;refine⟨.inl rfl,?_⟩;refine ah (by kernel_rfl) ?_ _;refine rE 3 I ?_;clear I a;refine u1 2 (ad rfl rfl) ?_;intro a I;replace I:=I.kp [3,11,12,13,5,20,21] rfl;have hS2:=tu hl (l':=⟨A38,c38,du ((ps.map PL.d).take i) d j 0 j++[(1,v)]⟩) (fQ (((O.p 4).p 4).p 3) (by simp) (by simp[gP]));refine⟨min d.vec.length 16-(j+1),by omega,j+1,_,I,sJ ((hS2.p 2).p 2),by omega,?_,rfl⟩;exact hT.set (mJ hv).2.symm fun k hk hne=>(mJ hv).1 k hne
  ·intro h22;refine uO 11 ?_;refine u1 0 (aa rfl cd) ?_;refine u1 0 (ld rfl) ?_;refine u1 4 (ak rfl dt) ?_;intro a I;refine wp_loop_ghost (fun (mm:Nat) a w=>∃(k:Nat) (ls:List (Loc bA)),Ag a 78 [(3,.pointer (some ⟨b10,0,none⟩)),(11,.slice (some A_p) (ps).length c),(12,.int .i64 ((ps.length:Nat):Int)),(13,.int .i64 ((i:Nat):Int)),(43,.slice ca (d.ab).length cc),(44,.int .i64 ((d.ab.length:Nat):Int)),(45,.int .i64 ((k:Nat):Int))]∧Sat W w ([kj 355 b10 ls,bB (ls.map (Loc.jF 357))])∧(k≤d.ab.length)∧(gZ ls (du ((ps.map PL.d).take i) d (min d.vec.length 16) k))∧mm=d.ab.length-k) d.ab.length ?_ ?_
   ·replace I:=I.kp [3,11,12,13,43,44,45] rfl;exact⟨0,_,I,O.drop,(by omega),(by have hj:j=min d.vec.length 16:=(by omega);rw[←hj];exact hT),by omega⟩
   intro m a w hI;clear O I;obtain⟨k,ls,I,O,hk,hT,rfl⟩:=hI;refine rC 2 I ?_;clear I a;refine aJ 0 0 (aq rfl rfl) ?_ ?_
   ·intro h46;refine uO 10 ?_;obtain⟨ca_p,rfl⟩:∃q,ca=some q:=(hpc.sat O).au (by omega);obtain⟨s,hs⟩:∃zz_,d.ab[k]?=some zz_:=⟨_,List.getElem?_eq_getElem (by omega)⟩;refine u1 0 (ix rfl rfl dt cX) ?_;refine u1 0 (aG (cs:=gH s) rfl lr cX (fun j u e=>bQ (hpc.sat O) (dQ hs j u e))) ?_;refine uN nK O ?_;clear O;intro b8 w O;refine uW (vs:=[_,_,_]) (cs':=[_,_,_]) rfl rfl cX O ?_;clear O;intro w O;refine uO 4 ?_;refine u1 0 (aa rfl cj) ?_;refine u1 0 (ld rfl) ?_;refine aJ 0 0 (dF rfl rfl) ?_ ?_
    ·intro h51;refine uO 1 ?_;refine u1 0 (aa rfl cj) ?_;refine u1 0 (ld rfl) ?_;refine aJ 0 0 (aq rfl rfl) ?_ ?_
     ·intro h55;obtain⟨lA,lc,hl⟩:=hT.get (show s.rep.toNat<16 by omega);have hlen:=oO ((ps.map PL.d).take i) d (min d.vec.length 16) k s.rep.toNat;intro a I;replace O:Sat W w (fe 357 lA lc (du ((ps.map PL.d).take i) d (min d.vec.length 16) k s.rep.toNat)::_):=(O.p 2).dU (rN hl);refine rO 4 I ?_;clear I a;intro a I;refine jo [18] (lB W [bB ((ls.map (Loc.jF 357)).eraseIdx s.rep.toNat),a6 b8 (.cells #[.int .i64 s.rep,.int .i64 s.lo,.int .i64 s.hi] 219),kj 355 b10 ls]) (by kernel_rfl) ?_;replace O:=O.drew;refine rX [0] I ?_;clear I a
      refine bF 1 [] rfl (fun w=>(aa rfl cj)) ?_;refine cZ 2 [3] rfl (by exact⟨[_],O⟩) (fun w hT=>have O:=hT.sat;(ld rfl)) ?_;refine bF 4 [] rfl (fun w=>(aa rfl cj)) ?_;refine cZ 5 [] rfl (by exact⟨[_],O⟩) (fun w hT=>have O:=hT.sat;(ld rfl)) ?_;refine bF 6 [] rfl (fun w=>(bc rfl)) ?_;refine bF 7 [] rfl (fun w=>(iA rfl rfl l6 ji)) ?_;refine cZ 8 [] rfl (by exact⟨[_],O⟩) (fun w hT=>have O:=hT.sat;(an rfl lh (gR (O.p 2) hl))) ?_;refine bF 9 [] rfl (fun w=>(aa rfl eQ)) ?_;refine cZ 10 [] rfl (by exact⟨[_],O⟩) (fun w hT=>have O:=hT.sat;(ld rfl)) ?_;refine bF 11 [] rfl (fun w=>(aa rfl eE)) ?_;refine cZ 12 [] rfl (by exact⟨[_],O⟩) (fun w hT=>have O:=hT.sat;(ld rfl)) ?_;intro a I;refine P1 13 [] I rfl (fun w=>(ar I rfl kP)) ?_;clear I a;refine bF 16 [] rfl (fun w=>(bc rfl)) ?_
      intro a I;refine aE 14 (by kernel_rfl) ?_;refine xP (vss:=[[_,_]]) I rfl rfl rfl bU iO rfl rfl rfl (by simp) rfl O ?_;clear I a O;intro A71 w O;intro a I;refine⟨.inr fun _=>(by exact⟨[_,_],O⟩),?_⟩;refine aE 15 (by kernel_rfl) ?_;refine eA I rfl rfl rfl rfl bU iO rfl (O.p 1) (O.rd.src bU (by simp[Value.oneCell'])) (by omega) (by omega) ?_;clear I a O;intro A72 c72 w hc72 O;intro a I;refine⟨.inr fun _=>(by exact⟨[_,_],O⟩),?_⟩;refine P1 17 [] I rfl (fun w=>(fG (I.ev rfl) (I.ev rfl) l6 ji (by omega) (by omega))) ?_;clear I a;intro a I;refine aE 18 (by kernel_rfl) ?_;refine eT (i:=s.rep.toNat) ⟨A72,c72,du ((ps.map PL.d).take i) d (min d.vec.length 16) k s.rep.toNat++[(s.lo,s.hi)]⟩ I rfl rfl (by simp) rfl (by simp[Loc.v]) lh ji (O.p 4) hl ?_;clear O;intro w O;refine⟨.inl rfl,?_⟩
      refine ah (by kernel_rfl) ?_ _;refine rE 3 I ?_;clear I a;refine u1 2 (ad rfl rfl) ?_;intro a I;replace I:=I.kp [3,11,12,13,43,44,45] rfl;have hS2:=tu hl (l':=⟨A72,c72,du ((ps.map PL.d).take i) d (min d.vec.length 16) k s.rep.toNat++[(s.lo,s.hi)]⟩) (fQ ((O.p 3).p 2) (by simp) (by simp[gP]));refine⟨d.ab.length-(k+1),by omega,k+1,_,I,n5 (hS2.p 1),by omega,?_,rfl⟩;refine hT.set ?_ fun q hq hne=>?_
      ·rw[fk hs,if_pos (by omega)]
      ·rw[fk hs,if_neg (by omega),List.append_nil]
     ·intro h55;refine uO 8 ?_;refine u1 2 (ad rfl rfl) ?_;intro a I;replace I:=I.kp [3,11,12,13,43,44,45] rfl;refine⟨d.ab.length-(k+1),by omega,k+1,ls,I,O.drop,by omega,?_,rfl⟩;exact hT.congr fun q hq=>by rw[fk hs,if_neg (by omega),List.append_nil]
    ·intro h51;refine uO 12 ?_;refine u1 2 (ad rfl rfl) ?_;intro a I;replace I:=I.kp [3,11,12,13,43,44,45] rfl;refine⟨d.ab.length-(k+1),by omega,k+1,ls,I,O.drop,by omega,?_,rfl⟩;exact hT.congr fun q hq=>by rw[fk hs,if_neg (by omega),List.append_nil]
   ·intro h46;refine uO 11 ?_;refine u1 2 (ad rfl rfl) ?_;intro a I;replace I:=I.kp [3,11,12,13] rfl;refine⟨ps.length-(i+1),by omega,i+1,ls,I,O,by omega,?_,rfl⟩;rw[aF (lv hp)];exact hT.congr fun r hr=>ov hr (by omega)
 ·intro h14;refine uO 16 ?_;refine aY ?_;have hi2:i=ps.length:=by omega
  subst hi2;rw[List.take_of_length_le (by simp)]at hT;exact⟨_,_,rfl,hT,O⟩
theorem x6 (W:World)(A:Option Addr)(n c:Nat)(xs:List Int)(hR:Rd W 1 (.slice A n c) n (xs.map (Value.int .i64)))(hn:n=xs.length)(hl:xs.length≤1000000000000):Calls Tryz.prog 244 #[.slice A n c] W fun e w'=>∃A' c',e=.returned (.slice A' xs.length c')∧Sat W w' [cq 3 A' c' xs]:=by
 refine bS Tryz.func244 [0] ?_;have O:=Sat.start W;refine uC 9 ?_;refine j4 0 0 (AI rfl rfl ax) ?_ ?_
 ·intro h4;refine uO 10 ?_;refine aY ?_;obtain rfl:A=none:=by simpa using h4
  obtain⟨h0,_⟩:=hR.nil;obtain rfl:=List.eq_nil_of_length_eq_zero (by omega:xs.length=0);exact⟨none,0,rfl,O.ba _ _⟩
 ·intro h4;refine uO 7 ?_;intro a I;refine Gj I rfl ax iU O ?_;clear I a O;intro A5 w O;refine uO 1 ?_;intro a I;refine dq I rfl rfl rfl ax iU rfl O ((hR.sat O).src ax (ze xs)) (by omega) (by omega) ?_;clear I a O;intro A7 c7 w hc7 O;refine uO 4 ?_;refine aY ?_;simp only[Nat.zero_add,List.nil_append]at O ⊢;exact⟨_,_,p3 hn,fQ O hn rfl⟩
theorem lN (W:World)(W0:World)(L0:List As)(t:Nat)(ls:List (Loc bA))(fr:Nat→List bA)(s0:Sat W0 W (kj 355 t ls::bB (ls.map (Loc.jF 357))::L0))(hT:gZ ls fr)(hb:∀r,r<16→(fr r).length≤100000000000):Calls Tryz.prog 192 #[.pointer (some ⟨t,0,none⟩)] W fun e w'=>∃q:PL,e=.returned (.agg #[.slice q.va q.d.vec.length q.vc,.slice q.ca q.d.ab.length q.cc])∧q.d=nv fr∧Sat W w' [cq 3 q.va q.vc q.d.vec,bp 219 q.ca q.cc q.d.ab]:=by
 refine bS Tryz.func192 [0] ?_;have O:=Sat.start W;refine uC 2 ?_;refine uN cY O ?_;clear O;intro b2 w O;refine uO 4 ?_;refine uN cY O ?_;clear O;intro b3 w O;refine uO 4 ?_;intro a I;refine Kh I rfl rfl rfl ax iU rfl (by decide) (by decide) O ?_;clear I a O;intro b11 w O;refine uO 15 ?_;intro a I
 refine wp_loop_ghost (fun (mm:Nat) a w=>∃(r:Nat) (Ac:Option Addr) (cc:Nat),Ag a 59 [(0,.pointer (some ⟨t,0,none⟩)),(2,.pointer (some ⟨b2,0,none⟩)),(3,.pointer (some ⟨b3,0,none⟩)),(4,.slice (some ⟨b11,0,none⟩) 16 16),(5,.int .i64 (((cJ (bw (fun r=>av (fr r))) r):Nat):Int)),(12,.int .i64 ((r:Nat):Int))]∧Sat W w ([a6 b3 (.cells #[.slice none 0 0,.slice Ac (((List.range r).flatMap (aR (fun r=>av (fr r))))).length cc] 63),bp 219 Ac cc ((List.range r).flatMap (aR (fun r=>av (fr r)))),a6 b11 (.cells (((List.range (r)).map (bw (fun r=>av (fr r)))++List.replicate (16-(r)) 0).map (Value.int .i64)).toArray 3 (0,0)),a6 b2 (.cells #[.slice none 0 0,.slice none 0 0] 63)])∧(r≤16)∧mm=16-r) 16 ?_ ?_
 ·replace I:=I.kp [0,2,3,4,5,12] rfl;exact⟨0,none,0,I,(((((O.ba 219 3).p 3).p 2).p 2).p 3),(by omega),by omega⟩
 intro m a w hI;clear O I;obtain⟨r,Ac,cc,I,O,hr,rfl⟩:=hI;refine rC 2 I ?_;clear I a;refine aJ 0 0 (aq rfl rfl) ?_ ?_
 ·intro h13;obtain⟨lA,lc,hl⟩:=hT.get (show r<16 by omega);have hrd:ku W lA lc (fr r):=sn s0.qN hl;have hbr:=hb r (by omega);have hlead:=o0 (eI (fr r));have hrl:(aX (av (fr r))).2.length≤100000000000:=Nat.le_trans (lU _) (Nat.le_trans (cK _) hbr);have hcl:=r5 hb r (by omega);intro a I;rw[dM]at hlead;refine rO 18 I ?_;clear I a;refine u1 0 (bc rfl) ?_;refine u1 0 (iA rfl rfl l6 ji) ?_;refine u1 0 (an rfl lh (Ej s0 O hl)) ?_;refine uF rfl (AY _ lA lc (fr r) (hrd.sat O) (by omega)) ?_;rintro e w ⟨A21,c21,rfl,hT2⟩;replace O:=O.aM hT2;clear hT2;refine uO 1 ?_;refine u1 0 (ai rfl rfl) ?_;refine u1 9 (ai rfl rfl) ?_;refine u1 0 (ix rfl rfl ax eP) ?_;intro a I;refine I0 (j:=r) I rfl (by rw[add_lit];simp) rfl dA eP rfl (O.p 3) (F3 (by omega)) ?_
  clear O;intro w O;rw[Hx (f:=(bw (fun r=>av (fr r)))) (show r<16 by omega) (aX (av (fr r))).1 rfl]at O;refine rO 6 I ?_;clear I a;refine aJ 0 0 (cG rfl rfl) ?_ ?_
  ·intro h29;refine uO 5 ?_;refine u1 6 (ad rfl rfl) ?_;refine u1 4 (ak rfl bU) ?_;intro a I
   refine wp_loop_ghost (fun (mm:Nat) a w=>∃(q sz:Nat) (Ac:Option Addr) (cc:Nat),Ag a 59 [(0,.pointer (some ⟨t,0,none⟩)),(2,.pointer (some ⟨b2,0,none⟩)),(3,.pointer (some ⟨b3,0,none⟩)),(4,.slice (some ⟨b11,0,none⟩) 16 16),(5,.int .i64 ((sz:Nat):Int)),(6,.int .i64 ((r:Nat):Int)),(12,.int .i64 ((r:Nat):Int)),(32,.slice A21 ((aX (av (fr r))).2).length c21),(33,.int .i64 (((aX (av (fr r))).2.length:Nat):Int)),(34,.int .i64 ((q:Nat):Int))]∧Sat W w ([a6 b3 (.cells #[.slice none 0 0,.slice Ac ((((List.range r).flatMap (aR (fun r=>av (fr r))))++((aX (av (fr r))).2.take q).map (j5 r))).length cc] 63),bp 219 Ac cc (((List.range r).flatMap (aR (fun r=>av (fr r))))++((aX (av (fr r))).2.take q).map (j5 r)),fe 357 A21 c21 (aX (av (fr r))).2,a6 b11 (.cells (((List.range (r+1)).map (bw (fun r=>av (fr r)))++List.replicate (16-(r+1)) 0).map (Value.int .i64)).toArray 3 (0,0)),a6 b2 (.cells #[.slice none 0 0,.slice none 0 0] 63)])∧(q≤(aX (av (fr r))).2.length)∧(sz=cJ (bw (fun r=>av (fr r))) (r+1))∧mm=(aX (av (fr r))).2.length-q) (aX (av (fr r))).2.length ?_ ?_
   ·replace I:=I.kp [0,2,3,4,5,6,12,32,33,34] rfl
    have hS1:Sat W w [a6 b3 (.cells #[.slice none 0 0,.slice Ac ((((List.range r).flatMap (aR (fun r=>av (fr r))))++((aX (av (fr r))).2.take 0).map (j5 r))).length cc] 63),bp 219 Ac cc (((List.range r).flatMap (aR (fun r=>av (fr r))))++((aX (av (fr r))).2.take 0).map (j5 r)),fe 357 A21 c21 (aX (av (fr r))).2,a6 b11 (.cells (((List.range (r+1)).map (bw (fun r=>av (fr r)))++List.replicate (16-(r+1)) 0).map (Value.int .i64)).toArray 3 (0,0)),a6 b2 (.cells #[.slice none 0 0,.slice none 0 0] 63)]:=by
     simp only[List.take_zero,List.map_nil,List.append_nil];exact (((((O.p 4).p 1).p 2).p 4).p 4)
    exact⟨0,r+1,Ac,cc,I,hS1,(by omega),(by rw[cJ,if_pos (show 0<(bw (fun r=>av (fr r))) r from h29)]),by omega⟩
   intro m a w hI;clear O I;obtain⟨q,sz,Ac,cc,I,O,hq,hsz,rfl⟩:=hI;refine rC 2 I ?_;clear I a;refine aJ 0 0 (aq rfl rfl) ?_ ?_
   ·intro h35;refine uO 10 ?_;obtain⟨A21_p,rfl⟩:∃q,A21=some q:=(O.p 2).rd.au (by omega);obtain⟨x,hx⟩:∃zz_,(aX (av (fr r))).2[q]?=some zz_:=⟨_,List.getElem?_eq_getElem (by omega)⟩;intro a I
    have hcl2:(((List.range r).flatMap (aR (fun r=>av (fr r))))++((aX (av (fr r))).2.take q).map (j5 r)).length≤r * 100000000000+q:=by
     rw[List.length_append,List.length_map,List.length_take];omega
    refine o1 0 I (ib (I.ev rfl) (I.ev rfl) bU dC (by omega) (by omega)) ?_;clear I a;refine u1 0 (aG (cs:=gP x) rfl s8 dC (fun j u e=>bQ (O.p 2).rd (eX hx j u e))) ?_;refine uN pC O ?_;clear O;intro b10 w O;refine uW (vs:=[_,_]) (cs':=[_,_]) rfl rfl dC O ?_;clear O;intro w O;refine uO 3 ?_;refine u1 0 (aa rfl cd) ?_;refine u1 1 (ld rfl) ?_;refine u1 0 (aa rfl gv) ?_;refine u1 0 (ld rfl) ?_;refine u1 0 (aa rfl dZ) ?_;refine u1 0 (ld rfl) ?_;intro a I;refine o1 0 I (ar I rfl iw) ?_;clear I a;intro a I;refine gF (vss:=[[_,_,_]]) I rfl rfl dt nT rfl rfl rfl (by simp) rfl O ?_;clear I a O;intro A46 w O;intro a I;refine dq I rfl rfl rfl dt nT rfl (O.p 3) (O.rd.src dt (by simp[Value.oneCell'])) (by omega) (by omega) ?_
    clear I a O;intro A47 c47 w hc47 O;refine u1 0 (aa rfl cd) ?_;intro a I;refine fS (cs':=[_,_]) I rfl rfl we C4 rfl (O.p 3) rfl rfl ?_;clear O;intro w O;refine rO 4 I ?_;clear I a;refine u1 2 (ad rfl rfl) ?_;intro a I;replace I:=I.kp [0,2,3,4,5,6,12,32,33,34] rfl;have ec:(((List.range r).flatMap (aR (fun r=>av (fr r))))++((aX (av (fr r))).2.take q).map (j5 r))++[j5 r x]=(((List.range r).flatMap (aR (fun r=>av (fr r))))++((aX (av (fr r))).2.take (q+1)).map (j5 r)):=by rw[aF hx,List.map_append,List.append_assoc];rfl
    have hS2:Sat W w (row 219 3 (.slice A47 ((((List.range r).flatMap (aR (fun r=>av (fr r))))++((aX (av (fr r))).2.take q).map (j5 r)).length+1) c47) ((((List.range r).flatMap (aR (fun r=>av (fr r))))++((aX (av (fr r))).2.take q).map (j5 r)).length+1) _::_):=O.p 1;refine⟨(aX (av (fr r))).2.length-(q+1),by omega,q+1,sz,A47,c47,I,?_,by omega,hsz,rfl⟩;have el:(((List.range r).flatMap (aR (fun r=>av (fr r))))++((aX (av (fr r))).2.take q).map (j5 r)).length+1=(((List.range r).flatMap (aR (fun r=>av (fr r))))++((aX (av (fr r))).2.take (q+1)).map (j5 r)).length:=by rw[←ec];simp;omega
    rw[←ec];rw[←ec]at el;have hS3:=fQ hS2 (m:=((((List.range r).flatMap (aR (fun r=>av (fr r))))++((aX (av (fr r))).2.take q).map (j5 r))++[j5 r x]).length) (cs':=((((List.range r).flatMap (aR (fun r=>av (fr r))))++((aX (av (fr r))).2.take q).map (j5 r))++[j5 r x]).flatMap gH) el (by simp[gH,j5]);rw[el]at hS3;exact (((((hS3.p 6).p 6).p 6).p 3).p 4).cw [_,_,_,_,_]
   ·intro h35;refine uO 11 ?_;refine u1 2 (ad rfl rfl) ?_;intro a I;replace I:=I.kp [0,2,3,4,5,12] rfl;have hq:q=(aX (av (fr r))).2.length:=by omega
    have ec:((List.range r).flatMap (aR (fun r=>av (fr r))))++((aX (av (fr r))).2.take q).map (j5 r)=(List.range (r+1)).flatMap (aR (fun r=>av (fr r))):=by rw[mO,rS,List.take_of_length_le (by omega)]
    rw[ec]at O;rw[hsz]at I;exact⟨16-(r+1),by omega,r+1,Ac,cc,I,((((O.p 4).p 4).p 3).p 3).cw [_,_,_,_],by omega,rfl⟩
  ·intro h29;refine uO 8 ?_;refine u1 4 (ak rfl bU) ?_;intro a I
   refine wp_loop_ghost (fun (mm:Nat) a w=>∃(q sz:Nat) (Ac:Option Addr) (cc:Nat),Ag a 59 [(0,.pointer (some ⟨t,0,none⟩)),(2,.pointer (some ⟨b2,0,none⟩)),(3,.pointer (some ⟨b3,0,none⟩)),(4,.slice (some ⟨b11,0,none⟩) 16 16),(5,.int .i64 ((sz:Nat):Int)),(6,.int .i64 ((r:Nat):Int)),(12,.int .i64 ((r:Nat):Int)),(32,.slice A21 ((aX (av (fr r))).2).length c21),(33,.int .i64 (((aX (av (fr r))).2.length:Nat):Int)),(34,.int .i64 ((q:Nat):Int))]∧Sat W w ([a6 b3 (.cells #[.slice none 0 0,.slice Ac ((((List.range r).flatMap (aR (fun r=>av (fr r))))++((aX (av (fr r))).2.take q).map (j5 r))).length cc] 63),bp 219 Ac cc (((List.range r).flatMap (aR (fun r=>av (fr r))))++((aX (av (fr r))).2.take q).map (j5 r)),fe 357 A21 c21 (aX (av (fr r))).2,a6 b11 (.cells (((List.range (r+1)).map (bw (fun r=>av (fr r)))++List.replicate (16-(r+1)) 0).map (Value.int .i64)).toArray 3 (0,0)),a6 b2 (.cells #[.slice none 0 0,.slice none 0 0] 63)])∧(q≤(aX (av (fr r))).2.length)∧(sz=cJ (bw (fun r=>av (fr r))) (r+1))∧mm=(aX (av (fr r))).2.length-q) (aX (av (fr r))).2.length ?_ ?_
   ·replace I:=I.kp [0,2,3,4,5,6,12,32,33,34] rfl
    have hS1:Sat W w [a6 b3 (.cells #[.slice none 0 0,.slice Ac ((((List.range r).flatMap (aR (fun r=>av (fr r))))++((aX (av (fr r))).2.take 0).map (j5 r))).length cc] 63),bp 219 Ac cc (((List.range r).flatMap (aR (fun r=>av (fr r))))++((aX (av (fr r))).2.take 0).map (j5 r)),fe 357 A21 c21 (aX (av (fr r))).2,a6 b11 (.cells (((List.range (r+1)).map (bw (fun r=>av (fr r)))++List.replicate (16-(r+1)) 0).map (Value.int .i64)).toArray 3 (0,0)),a6 b2 (.cells #[.slice none 0 0,.slice none 0 0] 63)]:=by
     simp only[List.take_zero,List.map_nil,List.append_nil];exact (((((O.p 4).p 1).p 2).p 4).p 4)
    exact⟨0,(cJ (bw (fun r=>av (fr r))) r),Ac,cc,I,hS1,(by omega),(by rw[cJ,if_neg (show ¬0<(bw (fun r=>av (fr r))) r from h29)]),by omega⟩
   intro m a w hI;clear O I;obtain⟨q,sz,Ac,cc,I,O,hq,hsz,rfl⟩:=hI;refine rC 2 I ?_;clear I a;refine aJ 0 0 (aq rfl rfl) ?_ ?_
   ·intro h35;refine uO 10 ?_;obtain⟨A21_p,rfl⟩:∃q,A21=some q:=(O.p 2).rd.au (by omega);obtain⟨x,hx⟩:∃zz_,(aX (av (fr r))).2[q]?=some zz_:=⟨_,List.getElem?_eq_getElem (by omega)⟩;intro a I
    have hcl2:(((List.range r).flatMap (aR (fun r=>av (fr r))))++((aX (av (fr r))).2.take q).map (j5 r)).length≤r * 100000000000+q:=by
     rw[List.length_append,List.length_map,List.length_take];omega
    refine o1 0 I (ib (I.ev rfl) (I.ev rfl) bU dC (by omega) (by omega)) ?_;clear I a;refine u1 0 (aG (cs:=gP x) rfl s8 dC (fun j u e=>bQ (O.p 2).rd (eX hx j u e))) ?_;refine uN pC O ?_;clear O;intro b10 w O;refine uW (vs:=[_,_]) (cs':=[_,_]) rfl rfl dC O ?_;clear O;intro w O;refine uO 3 ?_;refine u1 0 (aa rfl cd) ?_;refine u1 1 (ld rfl) ?_;refine u1 0 (aa rfl gv) ?_;refine u1 0 (ld rfl) ?_;refine u1 0 (aa rfl dZ) ?_;refine u1 0 (ld rfl) ?_;intro a I;refine o1 0 I (ar I rfl iw) ?_;clear I a;intro a I;refine gF (vss:=[[_,_,_]]) I rfl rfl dt nT rfl rfl rfl (by simp) rfl O ?_;clear I a O;intro A46 w O;intro a I;refine dq I rfl rfl rfl dt nT rfl (O.p 3) (O.rd.src dt (by simp[Value.oneCell'])) (by omega) (by omega) ?_
    clear I a O;intro A47 c47 w hc47 O;refine u1 0 (aa rfl cd) ?_;intro a I;refine fS (cs':=[_,_]) I rfl rfl we C4 rfl (O.p 3) rfl rfl ?_;clear O;intro w O;refine rO 4 I ?_;clear I a;refine u1 2 (ad rfl rfl) ?_;intro a I;replace I:=I.kp [0,2,3,4,5,6,12,32,33,34] rfl;have ec:(((List.range r).flatMap (aR (fun r=>av (fr r))))++((aX (av (fr r))).2.take q).map (j5 r))++[j5 r x]=(((List.range r).flatMap (aR (fun r=>av (fr r))))++((aX (av (fr r))).2.take (q+1)).map (j5 r)):=by rw[aF hx,List.map_append,List.append_assoc];rfl
    have hS2:Sat W w (row 219 3 (.slice A47 ((((List.range r).flatMap (aR (fun r=>av (fr r))))++((aX (av (fr r))).2.take q).map (j5 r)).length+1) c47) ((((List.range r).flatMap (aR (fun r=>av (fr r))))++((aX (av (fr r))).2.take q).map (j5 r)).length+1) _::_):=O.p 1;refine⟨(aX (av (fr r))).2.length-(q+1),by omega,q+1,sz,A47,c47,I,?_,by omega,hsz,rfl⟩;have el:(((List.range r).flatMap (aR (fun r=>av (fr r))))++((aX (av (fr r))).2.take q).map (j5 r)).length+1=(((List.range r).flatMap (aR (fun r=>av (fr r))))++((aX (av (fr r))).2.take (q+1)).map (j5 r)).length:=by rw[←ec];simp;omega
    rw[←ec];rw[←ec]at el;have hS3:=fQ hS2 (m:=((((List.range r).flatMap (aR (fun r=>av (fr r))))++((aX (av (fr r))).2.take q).map (j5 r))++[j5 r x]).length) (cs':=((((List.range r).flatMap (aR (fun r=>av (fr r))))++((aX (av (fr r))).2.take q).map (j5 r))++[j5 r x]).flatMap gH) el (by simp[gH,j5]);rw[el]at hS3;exact (((((hS3.p 6).p 6).p 6).p 3).p 4).cw [_,_,_,_,_]
   ·intro h35;refine uO 11 ?_;refine u1 2 (ad rfl rfl) ?_;intro a I;replace I:=I.kp [0,2,3,4,5,12] rfl;have hq:q=(aX (av (fr r))).2.length:=by omega
    have ec:((List.range r).flatMap (aR (fun r=>av (fr r))))++((aX (av (fr r))).2.take q).map (j5 r)=(List.range (r+1)).flatMap (aR (fun r=>av (fr r))):=by rw[mO,rS,List.take_of_length_le (by omega)]
    rw[ec]at O;rw[hsz]at I;exact⟨16-(r+1),by omega,r+1,Ac,cc,I,((((O.p 4).p 4).p 3).p 3).cw [_,_,_,_],by omega,rfl⟩
 ·intro h13;obtain rfl:r=16:=by omega
  have hsz16:=mP (bw (fun r=>av (fr r))) 16;refine uO 13 ?_;refine aJ 0 0 (cG rfl rfl) ?_ ?_
  ·intro h52;refine uO 2 ?_;intro a I;replace I:=I.kp [2,3,4,5,52] rfl;refine rC 4 I ?_;clear I a;refine u1 0 (mz rfl rfl ax eP (by omega) (by omega)) ?_;refine uF rfl (x6 _ _ _ _ ((List.range (cJ (bw (fun r=>av (fr r))) 16)).map (bw (fun r=>av (fr r)))) (yO hsz16 ▸ wR ((O.p 2).GI (m:=16) (BY (Nat.le_refl _)) (by decide)).rd hsz16) (by simp) (by simp;omega)) ?_;rintro e w ⟨A3,c3,rfl,hT2⟩;replace O:=O.aM hT2;clear hT2;refine u1 0 (aa rfl cD) ?_;intro a I;refine fS (cs':=[_,_]) I rfl rfl gU fK rfl (O.p 1) rfl rfl ?_;clear O;intro w O;refine rO 4 I ?_;clear I a;refine u1 0 (lS (cs:=[_,_]) rfl) ?_;refine uW (vs:=[_,_]) (cs':=[_,_]) rfl rfl aO (O.p 4) ?_;clear O;intro w O;refine uO 3 ?_;intro a I
   refine fY I rfl (br (cs:=[_,_]) I rfl cS aO (by exact O.ao (xs:=[_,_]) rfl)) ?_;exact⟨⟨A3,c3,Ac,cc,nv fr⟩,rfl,rfl,n5 ((O.p 3).p 3)⟩
  ·intro h52;refine uO 2 ?_;intro a I;replace I:=I.kp [2,3,4,5,52] rfl;refine rC 5 I ?_;clear I a;refine u1 0 (lS (cs:=[_,_]) rfl) ?_;refine uW (vs:=[_,_]) (cs':=[_,_]) rfl rfl aO (O.p 3) ?_;clear O;intro w O;refine uO 3 ?_;intro a I;refine fY I rfl (br (cs:=[_,_]) I rfl cS aO (by exact O.ao (xs:=[_,_]) rfl)) ?_;have e0:cJ (bw (fun r=>av (fr r))) 16=0:=by omega
   have ef:nv fr=⟨[],(List.range 16).flatMap (aR (fun r=>av (fr r)))⟩:=by unfold nv fR;rw[e0];rfl
   refine⟨⟨none,0,Ac,cc,nv fr⟩,by rw[ef];rfl,rfl,?_⟩;rw[ef];exact n5 (Sat.ba (O.p 2) 3 1)
def th (s:aL)(r n:Int):Bool:=decide (s.rep=r) && decide (s.lo≤n) && decide (n≤s.hi)
theorem iQ (c:List aL)(r n:Int):kC c r n=c.any fun s=>th s r n:=rfl
theorem s6 (W:World)(r n:Int)  : Calls Tryz.prog 193 #[.agg #[.int .i64 r,.int .i64 n]] W fun e w'=>e=.returned (.bool (dK r n))∧Sat W w' []:=by
 refine bS Tryz.func193 [0] ?_;have O:=Sat.start W;refine uC 2 ?_;refine uB rfl O ?_;clear O;intro b1 w O;refine uO 5 ?_;refine u1 0 (aa rfl bM) ?_;refine u1 0 (ld rfl) ?_;refine aJ 0 0 (dF rfl rfl) ?_ ?_
 ·intro h5;refine uO 1 ?_;refine u1 0 (aa rfl bM) ?_;refine u1 0 (ld rfl) ?_;refine aJ 0 0 (aq rfl rfl) ?_ ?_
  ·intro h9;refine uO 2 ?_;refine u1 0 (aa rfl bX) ?_;refine u1 0 (ld rfl) ?_;refine aJ 0 0 (dF rfl rfl) ?_ ?_
   ·intro h14;refine uO 2 ?_;refine u1 0 (aa rfl bX) ?_;refine u1 0 (ld rfl) ?_;refine u1 5 (dD rfl rfl) ?_;refine aY ?_;refine⟨?_,O.nil⟩;unfold dK
    congr 2
    rw[Bool.eq_iff_iff];simp only[Bool.and_eq_true,decide_eq_true_eq,Bool.false_eq_true,false_iff];omega
   ·intro h14;refine uO 10 ?_;refine aY ?_;refine⟨?_,O.nil⟩;unfold dK
    congr 2
    rw[Bool.eq_iff_iff];simp only[Bool.and_eq_true,decide_eq_true_eq,Bool.false_eq_true,false_iff];omega
  ·intro h9;refine uO 15 ?_;refine aY ?_;refine⟨?_,O.nil⟩;unfold dK
   congr 2
   rw[Bool.eq_iff_iff];simp only[Bool.and_eq_true,decide_eq_true_eq,Bool.false_eq_true,false_iff];omega
 ·intro h5;refine uO 19 ?_;refine aY ?_;refine⟨?_,O.nil⟩;unfold dK
  congr 2
  rw[Bool.eq_iff_iff];simp only[Bool.and_eq_true,decide_eq_true_eq,Bool.false_eq_true,false_iff];omega
theorem Ea (W:World)(A:Option Addr)(c:Nat)(xs:List Int)(B:Option Addr)(d:Nat)(ys:List Int)(hX:kY W A c xs)(hY:kY W B d ys)(hlx:xs.length≤1000000000000000)(hly:ys.length≤1000000000000000):Calls Tryz.prog 158 #[.slice A (xs).length c,.slice B (ys).length d] W fun e w'=>e=.returned (.bool (decide (xs=ys)))∧Sat W w' []:=by
 refine bS Tryz.func158 [0,1] ?_;have O:=Sat.start W;refine uC 9 ?_;refine u1 1 (ak rfl ax) ?_;refine u1 0 (ak rfl ax) ?_;refine aJ 0 0 (aD rfl rfl) ?_ ?_
 ·intro h10;refine uO 10 ?_;refine aY ?_;refine⟨?_,O⟩;rw[decide_eq_false];intro h;rw[h]at h10;omega
 ·intro h10;refine uO 9 ?_;refine u1 4 (ak rfl ax) ?_;intro a I;refine wp_loop_ghost (fun (mm:Nat) a w=>∃(i:Nat),Ag a 26 [(0,.slice A (xs).length c),(1,.slice B (ys).length d),(12,.int .i64 ((xs.length:Nat):Int)),(13,.int .i64 ((i:Nat):Int))]∧Sat W w ([])∧(i≤xs.length)∧(xs.take i=ys.take i)∧mm=xs.length-i) xs.length ?_ ?_
  ·replace I:=I.kp [0,1,12,13] rfl;exact⟨0,I,O,(by omega),(by rfl),by omega⟩
  intro m a w hI;clear O I;obtain⟨i,I,O,hi,he,rfl⟩:=hI;refine rC 2 I ?_;clear I a;refine aJ 0 0 (aq rfl rfl) ?_ ?_
  ·intro h14;refine uO 15 ?_;intro a I;refine cF (fun w'=>Sat _ w' _) (by kernel_rfl) (by kernel_rfl) O.drew ?_;refine rQ 2 I ?_;clear I a;obtain⟨A_p,rfl⟩:∃q,A=some q:=(hX.sat O).au (by omega);obtain⟨x,hx⟩:∃zz_,xs[i]?=some zz_:=⟨_,List.getElem?_eq_getElem (by omega)⟩;refine bj 0 (fun w O=>(ix rfl rfl ax eP)) ?_;refine bj 2 (fun w O=>(an rfl dA (fP (hX.sat O) (bu hx)))) ?_;obtain⟨B_p,rfl⟩:∃q,B=some q:=(hY.sat O).au (by omega);obtain⟨y,hy⟩:∃zz_,ys[i]?=some zz_:=⟨_,List.getElem?_eq_getElem (by omega)⟩;refine bj 0 (fun w O=>(ix rfl rfl ax eP)) ?_;refine bj 0 (fun w O=>(an rfl dA (fP (hY.sat O) (bu hy)))) ?_;intro a I;refine K.sE I rfl rfl rfl (fun w O=>(aD (I.ev rfl) (I.ev rfl))) ?_ ?_
   ·clear I a;intro h24;intro a I;refine wpQuiet_nil ?_;clear O;intro w O;refine rE 13 I ?_;clear I a;refine aY ?_;refine⟨?_,O⟩;rw[decide_eq_false];intro h;rw[h,hy]at hx;cases hx;omega
   ·clear I a;intro h24;intro a I;refine wpQuiet_nil ?_;clear O;intro w O;refine rE 6 I ?_;clear I a;refine u1 2 (ad rfl rfl) ?_;intro a I;replace I:=I.kp [0,1,12,13] rfl;refine⟨xs.length-(i+1),by omega,i+1,I,O,by omega,?_,rfl⟩;rw[aF hx,aF hy,he,show x=y from by omega]
  ·intro h14;refine uO 15 ?_;refine aY ?_;refine⟨?_,O⟩;rw[decide_eq_true];rwa[List.take_of_length_le (by omega),List.take_of_length_le (by omega)]at he
theorem DR (W:World)(A:Option Addr)(c:Nat)(xs:List aL)(B:Option Addr)(d:Nat)(ys:List aL)(hX:jk W A c xs)(hY:jk W B d ys)(hlx:xs.length≤1000000000000000)(hly:ys.length≤1000000000000000):Calls Tryz.prog 159 #[.slice A (xs).length c,.slice B (ys).length d] W fun e w'=>e=.returned (.bool (decide (xs=ys)))∧Sat W w' []:=by
 refine bS Tryz.func159 [0,1] ?_;have O:=Sat.start W;refine uC 9 ?_;refine u1 1 (ak rfl dt) ?_;refine u1 0 (ak rfl dt) ?_;refine aJ 0 0 (aD rfl rfl) ?_ ?_
 ·intro h10;refine uO 10 ?_;refine aY ?_;refine⟨?_,O⟩;rw[decide_eq_false];intro h;rw[h]at h10;omega
 ·intro h10;refine uO 9 ?_;refine u1 4 (ak rfl dt) ?_;intro a I;refine wp_loop_ghost (fun (mm:Nat) a w=>∃(i:Nat),Ag a 26 [(0,.slice A (xs).length c),(1,.slice B (ys).length d),(12,.int .i64 ((xs.length:Nat):Int)),(13,.int .i64 ((i:Nat):Int))]∧Sat W w ([])∧(i≤xs.length)∧(xs.take i=ys.take i)∧mm=xs.length-i) xs.length ?_ ?_
  ·replace I:=I.kp [0,1,12,13] rfl;exact⟨0,I,O,(by omega),(by rfl),by omega⟩
  intro m a w hI;clear O I;obtain⟨i,I,O,hi,he,rfl⟩:=hI;refine rC 2 I ?_;clear I a;refine aJ 0 0 (aq rfl rfl) ?_ ?_
  ·intro h14;refine uO 15 ?_;intro a I;refine cF (fun w'=>Sat _ w' _) (by kernel_rfl) (by kernel_rfl) O.drew ?_;refine rQ 2 I ?_;clear I a;obtain⟨A_p,rfl⟩:∃q,A=some q:=(hX.sat O).au (by omega);obtain⟨x,hx⟩:∃zz_,xs[i]?=some zz_:=⟨_,List.getElem?_eq_getElem (by omega)⟩;refine bj 0 (fun w O=>(ix rfl rfl dt cX)) ?_;refine bj 2 (fun w O=>(aG (cs:=gH x) rfl lr cX (fun j u e=>bQ (hX.sat O) (dQ hx j u e)))) ?_;obtain⟨B_p,rfl⟩:∃q,B=some q:=(hY.sat O).au (by omega);obtain⟨y,hy⟩:∃zz_,ys[i]?=some zz_:=⟨_,List.getElem?_eq_getElem (by omega)⟩;refine bj 0 (fun w O=>(ix rfl rfl dt cX)) ?_;refine bj 0 (fun w O=>(aG (cs:=gH y) rfl lr cX (fun j u e=>bQ (hY.sat O) (dQ hy j u e)))) ?_;intro a I;refine K.sE I rfl rfl rfl (fun w O=>(yi (I.ev rfl) (I.ev rfl) Gz GS)) ?_ ?_
   ·clear I a;intro h24;intro a I;refine wpQuiet_nil ?_;clear O;intro w O;refine rE 13 I ?_;clear I a;refine aY ?_;refine⟨?_,O⟩;rw[decide_eq_false];intro h;rw[h,hy]at hx;cases hx;simp at h24
   ·clear I a;intro h24;intro a I;refine wpQuiet_nil ?_;clear O;intro w O;refine rE 6 I ?_;clear I a;refine u1 2 (ad rfl rfl) ?_;intro a I;replace I:=I.kp [0,1,12,13] rfl;refine⟨xs.length-(i+1),by omega,i+1,I,O,by omega,?_,rfl⟩;rw[aF hx,aF hy,he,show x=y from by cases x;cases y;simpa using h24]
  ·intro h14;refine uO 15 ?_;refine aY ?_;refine⟨?_,O⟩;rw[decide_eq_true];rwa[List.take_of_length_le (by omega),List.take_of_length_le (by omega)]at he
theorem BE (W:World)(W0:World)(L0:List As)(b:Nat)(r n:Int)(s:aL)(s0:Sat W0 W (a6 b (.cells #[.int .i64 r,.int .i64 n] 214)::L0)):Calls Tryz.prog 195 #[.agg #[.int .i64 s.rep,.int .i64 s.lo,.int .i64 s.hi],.pointer (some ⟨b,0,none⟩)] W fun e w'=>e=.returned (.bool (th s r n))∧Sat W w' []:=by
 refine bS Tryz.func195 [0,1] ?_;have O:=Sat.start W;refine uC 2 ?_;refine uB rfl O ?_;clear O;intro b2 w O;refine uO 5 ?_;refine u1 0 (aa rfl cj) ?_;refine u1 0 (ld rfl) ?_;refine u1 0 (aa rfl bM) ?_;refine u1 0 (an rfl dA (s0.vg O rfl)) ?_;refine aJ 0 0 (aU rfl rfl) ?_ ?_
 ·intro h8;refine uO 1 ?_;refine u1 0 (aa rfl eQ) ?_;refine u1 0 (ld rfl) ?_;refine u1 0 (aa rfl bX) ?_;refine u1 0 (an rfl dA (s0.vg O rfl)) ?_;refine aJ 0 0 (dD rfl rfl) ?_ ?_
  ·intro h14;refine uO 2 ?_;refine u1 0 (aa rfl bX) ?_;refine u1 0 (an rfl dA (s0.vg O rfl)) ?_;refine u1 0 (aa rfl eE) ?_;refine u1 0 (ld rfl) ?_;refine u1 5 (dD rfl rfl) ?_;refine aY ?_;refine⟨?_,O.nil⟩;unfold th
   congr 2
   rw[Bool.eq_iff_iff];simp only[Bool.and_eq_true,decide_eq_true_eq,Bool.false_eq_true,false_iff];omega
  ·intro h14;refine uO 12 ?_;refine aY ?_;refine⟨?_,O.nil⟩;unfold th
   congr 2
   rw[Bool.eq_iff_iff];simp only[Bool.and_eq_true,decide_eq_true_eq,Bool.false_eq_true,false_iff];omega
 ·intro h8;refine uO 18 ?_;refine aY ?_;refine⟨?_,O.nil⟩;unfold th
  congr 2
  rw[Bool.eq_iff_iff];simp only[Bool.and_eq_true,decide_eq_true_eq,Bool.false_eq_true,false_iff];omega
theorem ug (W:World)(W0:World)(L0:List As)(b:Nat)(r n:Int)(A:Option Addr)(c:Nat)(xs:List aL)(s0:Sat W0 W (a6 b (.cells #[.int .i64 r,.int .i64 n] 214)::L0))(hX:jk W A c xs)(hl:xs.length≤1000000000000000):Calls Tryz.prog 245 #[.slice A (xs).length c,.func (.func 195) #[] #[.pointer (some ⟨b,0,none⟩)]] W fun e w'=>∃k:Int,e=.returned (.int .i64 k)∧decide (0≤k)=kC xs r n∧Sat W w' []:=by
 refine bS Tryz.func245 [0,1] ?_;have O:=Sat.start W;refine uC 9 ?_;refine u1 4 (ak rfl dt) ?_;intro a I;refine wp_loop_ghost (fun (mm:Nat) a w=>∃(i:Nat),Ag a 19 [(0,.slice A (xs).length c),(1,.func (.func 195) #[] #[.pointer (some ⟨b,0,none⟩)]),(7,.int .i64 ((xs.length:Nat):Int)),(8,.int .i64 ((i:Nat):Int))]∧Sat W w ([])∧(i≤xs.length)∧((xs.take i).any (fun s=>th s r n)=false)∧mm=xs.length-i) xs.length ?_ ?_
 ·replace I:=I.kp [0,1,7,8] rfl;exact⟨0,I,O,(by omega),(by rfl),by omega⟩
 intro m a w hI;clear O I;obtain⟨i,I,O,hi,he,rfl⟩:=hI;refine rC 2 I ?_;clear I a;refine aJ 0 0 (aq rfl rfl) ?_ ?_
 ·intro h9;refine uO 19 ?_;obtain⟨A_p,rfl⟩:∃q,A=some q:=(hX.sat O).au (by omega);obtain⟨x,hx⟩:∃zz_,xs[i]?=some zz_:=⟨_,List.getElem?_eq_getElem (by omega)⟩;refine u1 0 (ix rfl rfl dt cX) ?_;refine u1 0 (aG (cs:=gH x) rfl lr cX (fun j u e=>bQ (hX.sat O) (dQ hx j u e))) ?_;intro a I;refine Be I rfl Im rfl rfl (BE _ _ _ b r n x (s0.ag O)) ?_;rintro e w ⟨rfl,hT⟩;replace O:Sat _ _ _:=O.ag hT;clear hT;generalize h16:(th x r n)=bb;cases bb
  ·refine .inl ⟨_,rfl,?_⟩;clear I a;refine uO 7 ?_;refine u1 2 (ad rfl rfl) ?_;intro a I;replace I:=I.kp [0,1,7,8] rfl;refine⟨xs.length-(i+1),by omega,i+1,I,O,by omega,?_,rfl⟩;rw[aF hx,List.any_append,he];simp[h16]
  ·refine .inl ⟨_,rfl,?_⟩;clear I a;refine uO 15 ?_;refine aY ?_;refine⟨i,rfl,?_,O⟩;rw[iQ,decide_eq_true (by omega)];exact (List.any_eq_true.2 ⟨x,List.mem_of_getElem? hx,h16⟩).symm
 ·intro h9;refine uO 15 ?_;refine aY ?_;refine⟨-1,rfl,?_,O⟩;rw[List.take_of_length_le (by omega)]at he;rw[iQ,he];rfl
theorem oC (W:World)(W0:World)(L0:List As)(b:Nat)(r n:Int)(A:Option Addr)(c:Nat)(xs:List aL)(s0:Sat W0 W (a6 b (.cells #[.int .i64 r,.int .i64 n] 214)::L0))(hX:jk W A c xs)(hl:xs.length≤1000000000000000):Calls Tryz.prog 194 #[.slice A (xs).length c,.func (.func 195) #[] #[.pointer (some ⟨b,0,none⟩)]] W fun e w'=>e=.returned (.bool (kC xs r n))∧Sat W w' []:=by
 refine bS Tryz.func194 [0,1] ?_;have O:=Sat.start W;refine uC 9 ?_;refine uF rfl (ug _ _ _ b r n A c xs (s0.ag O) (hX.sat O) hl) ?_;rintro e w ⟨k,rfl,hk,hT⟩;replace O:Sat _ _ _:=O.ag hT;clear hT;refine u1 4 (dF rfl rfl) ?_;refine aY ?_;exact⟨by rw[hk],O⟩
theorem w5 (W:World)(p:PL)(r n:Int)(hp:p.ok W)(hlv:p.d.vec.length≤1000000000000)(hlc:p.d.ab.length≤1000000000000):Calls Tryz.prog 162 #[.agg #[.slice p.va p.d.vec.length p.vc,.slice p.ca p.d.ab.length p.cc],.agg #[.int .i64 r,.int .i64 n]] W fun e w'=>e=.returned (.bool (hasB p.d r n))∧Sat W w' []:=by
 refine bS Tryz.func162 [0,1] ?_;have O:=Sat.start W;obtain⟨va,vc,ca,cc,d⟩:=p;have hpv:kY W va vc d.vec:=hp.vec;have hpc:jk W ca cc d.ab:=hp.ab;intro a I;dsimp only at hlv hlc I ⊢;refine rC 2 I ?_;clear I a;refine uB rfl O ?_;clear O;intro b2 w O;refine uB rfl O ?_;clear O;intro b3 w O;refine uO 6 ?_;refine u1 0 (lS (cs:=[_,_]) rfl) ?_;refine uF rfl (s6 _ r n) ?_;rintro e w ⟨rfl,hT⟩;replace O:Sat _ _ _:=O.ag hT;clear hT;generalize h6:(dK r n)=bb;cases bb
 ·refine u1 10 (aB rfl) ?_;refine aY ?_;refine⟨?_,O.nil⟩;rw[hasB,h6];rfl
 ·refine u1 7 (aB rfl) ?_;intro a I;refine cF (fun w'=>Sat _ w' _) (by kernel_rfl) (by kernel_rfl) O.drew ?_;refine Q1 0 I (fun w O=>(aa (I.ev rfl) bM)) ?_;clear I a;refine bj 0 (fun w O=>(ld rfl)) ?_;refine bj 0 (fun w O=>(aa rfl cD)) ?_;refine bj 0 (fun w O=>(ld rfl)) ?_;refine bj 0 (fun w O=>(ak rfl ax)) ?_;intro a I;refine K.sE I rfl rfl rfl (fun w O=>(aq (I.ev rfl) (I.ev rfl))) ?_ ?_
  ·clear I a;intro h13;have hdot:=h6;intro a I;unfold dK at hdot;simp only[Bool.and_eq_true,decide_eq_true_eq]at hdot;refine rQ 1 I ?_;clear I a;refine bj 0 (fun w O=>(aa rfl bX)) ?_;refine bj 0 (fun w O=>(ld rfl)) ?_;refine bj 0 (fun w O=>(aa rfl cD)) ?_;refine bj 0 (fun w O=>(ld rfl)) ?_;refine bj 0 (fun w O=>(aa rfl bM)) ?_;refine bj 0 (fun w O=>(ld rfl)) ?_;obtain⟨va_p,rfl⟩:∃q,va=some q:=(hpv.sat O).au (by omega);obtain⟨v,hv⟩:∃zz_,d.vec[r.toNat]?=some zz_:=⟨_,List.getElem?_eq_getElem (by omega)⟩;refine bj 0 (fun w O=>(ix rfl rfl ax eP)) ?_;refine bj 0 (fun w O=>(an rfl dA (fP (hpv.sat O) (bu hv)))) ?_;intro a I;refine K.oU I (aT I rfl rfl rfl) rfl rfl (fun w O=>(dD (I.ev rfl) (I.ev rfl))) ?_ ?_
   ·clear I a;intro h23;refine uQ 1 ?_;intro a I;refine wpQuiet_nil ?_;clear O;intro w O;refine rE 9 I ?_;clear I a;refine aY ?_;refine⟨?_,O.nil⟩;have hv2:iy d.vec r n=true:=by unfold iy;rw[hv];simp;omega
    rw[hasB,h6,hv2];simp
   ·clear I a;intro h23;refine uQ 1 ?_;intro a I;refine wpQuiet_nil ?_;clear O;intro w O;refine rE 6 I ?_;clear I a;refine u1 0 (aa rfl cd) ?_;refine u1 0 (ld rfl) ?_;intro a I;refine o1 0 I (qY (I.mW rfl)) ?_;clear I a;refine uF rfl (oC _ _ _ _ r n ca cc d.ab O (hpc.sat O) (by omega)) ?_;rintro e w ⟨rfl,hT⟩;replace O:Sat _ _ _:=O.ag hT;clear hT;refine uO 3 ?_;intro a I;replace I:=I.kp [4] rfl;refine rC 1 I ?_;clear I a;refine aY ?_;refine⟨?_,O.nil⟩;have hv2:iy d.vec r n=false:=by unfold iy;rw[hv];simp;omega
    rw[hasB,h6,hv2];simp
  ·clear I a;intro h13;refine uQ 11 ?_;intro a I;refine wpQuiet_nil ?_;clear O;intro w O;refine rE 6 I ?_;clear I a;refine u1 0 (aa rfl cd) ?_;refine u1 0 (ld rfl) ?_;intro a I;refine o1 0 I (qY (I.mW rfl)) ?_;clear I a;refine uF rfl (oC _ _ _ _ r n ca cc d.ab O (hpc.sat O) (by omega)) ?_;rintro e w ⟨rfl,hT⟩;replace O:Sat _ _ _:=O.ag hT;clear hT;refine uO 3 ?_;intro a I;replace I:=I.kp [4] rfl;refine rC 1 I ?_;clear I a;refine aY ?_;refine⟨?_,O.nil⟩;have hv2:iy d.vec r n=false:=by unfold iy;rw[List.getElem?_eq_none (by omega)]
   rw[hasB,h6,hv2];simp
theorem l7 (W:World)(B:Option Addr)(d:Nat)(p:PL)(hB:Rd W 2 (.slice B 1 d) 1 ([p].flatMap s4))(hp:p.ok W)(hl:p.d.ab.length≤10000000000) :
 Calls Tryz.prog 191 #[.slice B 1 d] W fun e w'=>∃t ls,e=.returned (.pointer (some ⟨t,0,none⟩))∧gZ ls (cR p.d)∧Sat W w' [kj 355 t ls,bB (ls.map (Loc.jF 357))]:=by
 refine (vD W B d [p] hB (fun q hq=>by simp at hq;subst hq;exact hp) (by simp) (by simp[dm];omega)).mono ?_;rintro e w' ⟨t,ls,he,hT,O⟩;exact⟨t,ls,he,hT.congr fun r _=>by simp[fU],O⟩
theorem sH {p:aI}(h:p.ab.length≤10000000000):∀r,r<16→(cR p r).length≤100000000000:=fun r _=>by have:=eC p r;omega
theorem ct (W:World)(p:PL)(hp:p.ok W)(hlc:p.d.ab.length≤10000000000):Calls Tryz.prog 157 #[.agg #[.slice p.va p.d.vec.length p.vc,.slice p.ca p.d.ab.length p.cc]] W fun e w'=>∃q:PL,e=.returned (.agg #[.slice q.va q.d.vec.length q.vc,.slice q.ca q.d.ab.length q.cc])∧q.d=gS p.d∧Sat W w' [cq 3 q.va q.vc q.d.vec,bp 219 q.ca q.cc q.d.ab]:=by
 refine bS Tryz.func157 [0] ?_;have O:=Sat.start W;refine uC 2 ?_;refine uB rfl O ?_;clear O;intro b1 w O;refine uN cY O ?_;clear O;intro b2 w O;refine uO 4 ?_;refine u1 0 (lS (cs:=[_,_]) rfl) ?_;intro a I;refine gF (vss:=[[_,_]]) I rfl rfl fF qo rfl rfl rfl (by simp) rfl O ?_;clear I a O;intro A4 w O;refine uF rfl (l7 _ _ _ p O.rd (hp.sat O) hlc) ?_;rintro e w ⟨t,ls,rfl,hT,hT2⟩;replace O:Sat _ _ (_::_::_):=O.ag hT2;clear hT2;refine uF rfl (lN _ _ _ t ls (cR p.d) O hT (sH hlc)) ?_;rintro e w ⟨q,rfl,hq,hT2⟩;replace O:Sat _ _ (_::_::_):=O.ag hT2;clear hT2;refine uW (vs:=[_,_]) (cs':=[_,_]) rfl rfl aO (O.p 5) ?_;clear O;intro w O;refine uO 3 ?_;intro a I;refine fY I rfl (br (cs:=[_,_]) I rfl cS aO (by exact O.ao (xs:=[_,_]) rfl)) ?_;exact⟨q,rfl,hq,n5 ((O.p 2).p 2)⟩
theorem lX (W:World)(A:Option Addr)(c:Nat)(ps:List PL)(hR:Bi W A c ps)(hE:∀p∈ps,p.ok W)(hn:ps.length≤1000000000000)(ht:dm (ps.map PL.d)≤100000000000):Calls Tryz.prog 342 #[.slice A (ps).length c] W fun e w'=>∃q:PL,e=.returned (.agg #[.slice q.va q.d.vec.length q.vc,.slice q.ca q.d.ab.length q.cc])∧q.d=iB (ps.map PL.d)∧Sat W w' [cq 3 q.va q.vc q.d.vec,bp 219 q.ca q.cc q.d.ab]:=by
 refine bS Tryz.func342 [0] ?_;have O:=Sat.start W;refine uC 2 ?_;refine uN cY O ?_;clear O;intro b2 w O;refine uO 5 ?_;refine uF rfl (vD _ A c ps (hR.sat O) (fun p hp=>(hE p hp).sat O) hn (by omega)) ?_;rintro e w ⟨t,ls,rfl,hT,hT2⟩;replace O:Sat _ _ (_::_::_):=O.ag hT2;clear hT2;refine uF rfl (lN _ _ _ t ls (fU (ps.map PL.d)) O hT (fun r _=>Nat.le_trans (kG _ r) ht)) ?_;rintro e w ⟨q,rfl,hq,hT2⟩;replace O:Sat _ _ (_::_::_):=O.ag hT2;clear hT2;refine uW (vs:=[_,_]) (cs':=[_,_]) rfl rfl aO (O.p 4) ?_;clear O;intro w O;refine uO 3 ?_;intro a I;refine fY I rfl (br (cs:=[_,_]) I rfl cS aO (by exact O.ao (xs:=[_,_]) rfl)) ?_;exact⟨q,rfl,hq,n5 ((O.p 2).p 2)⟩
theorem gx (W:World)(p:PL)(hp:p.ok W)(hlc:p.d.ab.length≤10000000000)(hlv:p.d.vec.length≤1000000000000):Calls Tryz.prog 121 #[.agg #[.slice p.va p.d.vec.length p.vc,.slice p.ca p.d.ab.length p.cc]] W fun e w'=>e=.returned (.bool (bg p.d))∧Sat W w' []:=by
 refine bS Tryz.func121 [0] ?_;have O:=Sat.start W;refine uC 2 ?_;refine uB rfl O ?_;clear O;intro b1 w O;refine uO 5 ?_;refine u1 0 (lS (cs:=[_,_]) rfl) ?_;refine uF rfl (ct _ p (hp.sat O) hlc) ?_;rintro e w ⟨q,rfl,hq,hT⟩;have hcn:=i6 p.d;rw[←hq]at hcn;have hcv:=hcn.len;have hcl:=jP p.d;rw[←hq]at hcl;replace O:Sat _ _ (_::_::_):=O.ag hT;clear hT;refine uN cY O ?_;clear O;intro b3 w O;refine uW (vs:=[_,_]) (cs':=[_,_]) rfl rfl aO O ?_;clear O;intro w O;refine uO 4 ?_;refine u1 0 (aa rfl cD) ?_;refine u1 0 (ld rfl) ?_;refine u1 0 (aa rfl cD) ?_;refine u1 0 (ld rfl) ?_;refine uF rfl (Ea _ p.va p.vc p.d.vec q.va q.vc q.d.vec (hp.vec.sat O) (O.p 1).rd (by omega) (by omega)) ?_;rintro e w ⟨rfl,hT⟩;replace O:Sat _ _ _:=O.ag hT;clear hT;generalize h10:(decide (p.d.vec=q.d.vec))=bb;cases bb
 ·refine uO 11 ?_;refine aY ?_;refine⟨?_,O.nil⟩
  congr 2
  unfold bg;rw[←hq,eq_comm,decide_eq_false];intro h;rw[h]at h10;simp at h10
 ·refine uO 1 ?_;refine u1 0 (aa rfl cd) ?_;refine u1 0 (ld rfl) ?_;refine u1 0 (aa rfl cd) ?_;refine u1 0 (ld rfl) ?_;refine iV rfl (DR _ p.ca p.cc p.d.ab q.ca q.cc q.d.ab (hp.ab.sat O) (O.p 2).rd (by omega) (by omega)) ?_;rintro e w ⟨rfl,hT⟩;replace O:Sat _ _ _:=O.ag hT;clear hT;generalize h16:(decide (p.d.ab=q.d.ab))=bb;cases bb
  ·refine uO 5 ?_;refine aY ?_;refine⟨?_,O.nil⟩
   congr 2
   unfold bg;rw[←hq,eq_comm,decide_eq_false];intro h;rw[h]at h16;simp at h16
  ·refine uO 5 ?_;refine aY ?_;refine⟨?_,O.nil⟩
   congr 2
   unfold bg;rw[←hq,eq_comm,decide_eq_true];simp only[decide_eq_true_eq]at h10 h16;exact v7 h10.symm h16.symm
theorem zA (W:World)(p:PL)(hp:p.ok W)(hlc:p.d.ab.length≤10000000000):Calls Tryz.prog 170 #[.agg #[.slice p.va p.d.vec.length p.vc,.slice p.ca p.d.ab.length p.cc]] W fun e w'=>e=.returned (.int .i64 (BT p.d))∧Sat W w' []:=by
 refine bS Tryz.func170 [0] ?_;have O:=Sat.start W;refine uC 2 ?_;refine uB rfl O ?_;clear O;intro b1 w O;refine uO 11 ?_;refine u1 0 (lS (cs:=[_,_]) rfl) ?_;intro a I;refine gF (vss:=[[_,_]]) I rfl rfl fF qo rfl rfl rfl (by simp) rfl O ?_;clear I a O;intro A7 w O;refine uF rfl (l7 _ _ _ p O.rd (hp.sat O) hlc) ?_;rintro e w ⟨t,ls,rfl,hT,hT2⟩;replace O:Sat _ _ (_::_::_):=O.ag hT2;clear hT2;refine u1 4 (bc rfl) ?_;intro a I;refine wp_loop_ghost (fun (mm:Nat) a w=>∃(r:Nat),Ag a 21 [(3,.int .i64 (((List.range r).map fun r=>c4 (aP p.d r)).sum)),(8,.pointer (some ⟨t,0,none⟩)),(10,.int .i64 ((r:Nat):Int))]∧Sat W w ([kj 355 t ls,bB (ls.map (Loc.jF 357))])∧(r≤16)∧mm=16-r) 16 ?_ ?_
 ·replace I:=I.kp [3,8,10] rfl;exact⟨0,I,n5 O,(by omega),by omega⟩
 intro m a w hI;clear O I;obtain⟨r,I,O,hr,rfl⟩:=hI;refine rC 2 I ?_;clear I a;refine aJ 0 0 (aq rfl rfl) ?_ ?_
 ·intro h11;obtain⟨lA,lc,hl⟩:=hT.get (show r<16 by omega);have hst:=tm p.d r;have hst2:=tm p.d (r+1);intro a I;rw[sr]at hst2;have hrl:=sH hlc r (by omega);refine rO 10 I ?_;clear I a;refine u1 0 (bc rfl) ?_;refine u1 0 (iA rfl rfl l6 ji) ?_;refine u1 6 (an rfl lh (gR O hl)) ?_;refine uF rfl (AF _ lA lc (cR p.d r) (sn O.qN hl) (by omega)) ?_;rintro e w ⟨rfl,hT2⟩;replace O:Sat _ _ _:=O.ag hT2;clear hT2;refine u1 5 (ad rfl rfl) ?_;refine u1 2 (ad rfl rfl) ?_;intro a I;replace I:=I.kp [3,8,10] rfl;rw[←sr]at I;exact⟨16-(r+1),by omega,r+1,I,O,by omega,rfl⟩
 ·intro h11;refine uO 16 ?_;refine aY ?_;obtain rfl:r=16:=by omega
  exact⟨rfl,O.nil⟩
theorem gw (W:World)(p:PL)(hp:p.ok W)(hlc:p.d.ab.length≤10000000000):Calls Tryz.prog 125 #[.agg #[.slice p.va p.d.vec.length p.vc,.slice p.ca p.d.ab.length p.cc]] W fun e w'=>e=.returned (.bool (eO p.d))∧Sat W w' []:=by
 refine bS Tryz.func125 [0] ?_;have O:=Sat.start W;refine uC 2 ?_;refine uB rfl O ?_;clear O;intro b1 w O;refine uO 5 ?_;refine u1 0 (lS (cs:=[_,_]) rfl) ?_;refine uF rfl (zA _ p (hp.sat O) hlc) ?_;rintro e w ⟨rfl,hT2⟩;replace O:Sat _ _ _:=O.ag hT2;clear hT2;refine u1 4 (aU rfl rfl) ?_;refine aY ?_;exact⟨rfl,O.nil⟩
end Go.Proofs.YtkjabaihpkbfhaaGreat.Wk
namespace Go.Proofs.YtkjabaihpkbfhaaGreat.K
open Go Go.RowKit
variable {P:Program} {ops:Array Oper} {a:Act} {n:Nat} {E:Env} {w:World} {d:Nat} {ds:List Deferred} {x:Operand} {Q:Exit→Act→World→Prop}
theorem eV {i:Nat}{K:Act→World→Prop}{f:Nat}{l:List Operand}{tys:Array TypeId}{vs caps:List Value}{ty:TypeId}{ps:String}{af:Array Edge}{R:Ending→World→Prop}(I:Ag a n E ds)(hi:ops[i]?=some ⟨some d,.call { callee:=.value x,args:=l.toArray,argTypes:=tys },ty,ps,af,none⟩)
 (hn:Nat.blt d n=true) (hf:enters P f=true) (hx:fE E x=some (.func (.func f) #[] caps.toArray)) (hv:mW E l=some vs) (hc:Calls P f (vs++caps).toArray w R) (k:∀e w',R e w'→∃v,e=.returned v∧∀a',Ag a' n ((d,v)::E) ds→K a' w'):wpOp P ops Q i K a w:=by
 unfold wpOp;simp only[hi];rw[if_pos (by simp[Region.wanted])];refine .inl ?_;have hr:=x5 (P:=P) (w:=w) (dd:=some d) (ty:=ty) (ps:=ps) (af:=af) (g:=none) (tys:=tys) I hf hx hv;simp only[Oper.wp,hr,Oper.upon];refine hc.mono fun e w' h=>?_;obtain⟨v,rfl,hk⟩:=k e w' h;exact hk _ (I.put hn v)
end Go.Proofs.YtkjabaihpkbfhaaGreat.K
namespace Go.Proofs.YtkjabaihpkbfhaaGreat.Wk
open Go Go.RowKit Go.Proofs.YtkjabaihpkbfhaaGreat Go.Proofs.YtkjabaihpkbfhaaGreat.K Go.Proofs.YtkjabaihpkbfhaaGreat.T
theorem ly {xs:List Int}{i:Nat}{x:Int}(h:xs[i]?=some x)(h0:cx (xs.take i)=0)(hx:x≠0):cx xs=x:=by
 conv=>lhs;rw[←List.take_append_drop i xs,cg,if_pos h0,aK h,cx,if_neg hx]
theorem kA {xs:List Int}{i:Nat}{x:Int}(h:xs[i]?=some x)(h0:cx (xs.take i)=0)(hx:x=0):cx (xs.take (i+1))=0:=by
 rw[aF h,cg,if_pos h0,cx,if_pos hx];rfl
theorem dy {v:List Int}{r:Nat}{x:Int}(h:v[r]?=some x):ay v r=x:=by unfold ay;rw[h]
theorem kb {x y:Int}(h:x≠y):gf x y≠0:=fun e=>h (eM.1 e)
theorem s7 (W:World)(x:Int)  : Calls Tryz.prog 414 #[.int .i64 x] W fun e w'=>e=.returned (.bool false)∧Sat W w' []:=by
 refine bS Tryz.func414 [0] ?_;have O:=Sat.start W;refine uC 9 ?_;refine u1 4 (dz (aD rfl rfl) (by omega)) ?_;refine aY ?_;exact⟨rfl,O⟩
theorem gl (W:World)(x y:Int)  : Calls Tryz.prog 398 #[.int .i64 x,.int .i64 y] W fun e w'=>e=.returned (.int .i64 (gf x y))∧Sat W w' []:=by
 refine bS Tryz.func398 [0,1] ?_;have O:=Sat.start W;refine uC 8 ?_;refine uF rfl (s7 _ x) ?_;rintro e w ⟨rfl,hT⟩;replace O:Sat _ _ _:=O.ag hT;clear hT
 ·refine uO 6 ?_;refine uF rfl (s7 _ y) ?_;rintro e w ⟨rfl,hT⟩;replace O:Sat _ _ _:=O.ag hT;clear hT
  ·refine uO 26 ?_;refine aJ 0 0 (aq rfl rfl) ?_ ?_
   ·intro h16;refine uO 2 ?_;intro a I;replace I:=I.kp [0,1,4,16] rfl;refine rC 8 I ?_;clear I a;refine aY ?_;refine⟨?_,O⟩;unfold gf
    (repeat' split)<;>rfl
   ·intro h16;refine uO 2 ?_;intro a I;replace I:=I.kp [0,1,4,16] rfl;refine rC 8 I ?_;clear I a;refine aJ 0 0 (cG rfl rfl) ?_ ?_
    ·intro h19;refine uO 10 ?_;refine aY ?_;refine⟨?_,O⟩;unfold gf
     (repeat' split)<;>first | rfl | omega
    ·intro h19;refine uO 11 ?_;refine aY ?_;refine⟨?_,O⟩;unfold gf
     (repeat' split)<;>first | rfl | omega
theorem FF (W:World)(A:Option Addr)(c:Nat)(xs:List Int)(hX:kY W A c xs)(hl:xs.length≤1000000000000):Calls Tryz.prog 401 #[.slice A (xs).length c] W fun e w'=>e=.returned (.int .i64 (cx xs))∧Sat W w' []:=by
 refine bS Tryz.func401 [0] ?_;have O:=Sat.start W;refine uC 14 ?_;refine u1 4 (ak rfl ax) ?_;intro a I;refine wp_loop_ghost (fun (mm:Nat) a w=>∃(i:Nat),Ag a 18 [(3,.int .i64 0),(6,.slice A (xs).length c),(7,.int .i64 ((xs.length:Nat):Int)),(8,.int .i64 ((i:Nat):Int))]∧Sat W w ([])∧(i≤xs.length)∧(cx (xs.take i)=0)∧mm=xs.length-i) xs.length ?_ ?_
 ·replace I:=I.kp [3,6,7,8] rfl;exact⟨0,I,O,(by omega),(by rfl),by omega⟩
 intro m a w hI;clear O I;obtain⟨i,I,O,hi,he,rfl⟩:=hI;refine rC 2 I ?_;clear I a;refine aJ 0 0 (aq rfl rfl) ?_ ?_
 ·intro h9;refine uO 10 ?_;obtain⟨A_p,rfl⟩:∃q,A=some q:=(hX.sat O).au (by omega);obtain⟨x,hx⟩:∃zz_,xs[i]?=some zz_:=⟨_,List.getElem?_eq_getElem (by omega)⟩;refine u1 0 (ix rfl rfl ax eP) ?_;refine u1 7 (an rfl dA (fP (hX.sat O) (bu hx))) ?_;refine aJ 0 0 (aD rfl rfl) ?_ ?_
  ·intro h14;refine uO 15 ?_;refine aY ?_;exact⟨by rw[ly hx he h14],O⟩
  ·intro h14;refine uO 7 ?_;refine u1 2 (ad rfl rfl) ?_;intro a I;replace I:=I.kp [3,6,7,8] rfl;exact⟨xs.length-(i+1),by omega,i+1,I,O,by omega,kA hx he (by omega),rfl⟩
 ·intro h9;refine uO 16 ?_;refine aY ?_;rw[List.take_of_length_le (by omega)]at he;exact⟨by rw[he],O⟩
theorem vO (W:World)(s t:aL)  : Calls Tryz.prog 400 #[.agg #[.int .i64 s.rep,.int .i64 s.lo,.int .i64 s.hi],.agg #[.int .i64 t.rep,.int .i64 t.lo,.int .i64 t.hi]] W fun e w'=>e=.returned (.int .i64 (iY s t))∧Sat W w' []:=by
 refine bS Tryz.func400 [0,1] ?_;have O:=Sat.start W;refine uC 2 ?_;refine uB rfl O ?_;clear O;intro b2 w O;refine uB rfl O ?_;clear O;intro b3 w O;refine uO 4 ?_;intro a I;refine bf [14,15,16] O (by kernel_rfl) ?_;replace O:=O.drew;refine P1 0 [] I rfl (fun w=>(aa (I.ev rfl) cj)) ?_;clear I a
 refine cZ 1 [] rfl (by exact⟨[],O⟩) (fun w hT=>have O:=hT.sat;(ld rfl)) ?_;refine bF 2 [] rfl (fun w=>(aa rfl cj)) ?_;refine cZ 3 [] rfl (by exact⟨[],O⟩) (fun w hT=>have O:=hT.sat;(ld rfl)) ?_;refine bF 5 [] rfl (fun w=>(aa rfl eQ)) ?_;refine cZ 6 [] rfl (by exact⟨[],O⟩) (fun w hT=>have O:=hT.sat;(ld rfl)) ?_;refine bF 7 [] rfl (fun w=>(aa rfl eQ)) ?_;refine cZ 8 [] rfl (by exact⟨[],O⟩) (fun w hT=>have O:=hT.sat;(ld rfl)) ?_;refine bF 10 [] rfl (fun w=>(aa rfl eE)) ?_;refine cZ 11 [] rfl (by exact⟨[],O⟩) (fun w hT=>have O:=hT.sat;(ld rfl)) ?_;refine bF 12 [] rfl (fun w=>(aa rfl eE)) ?_;refine cZ 13 [] rfl (by exact⟨[],O⟩) (fun w hT=>have O:=hT.sat;(ld rfl)) ?_;intro a I;refine aE 4 (by kernel_rfl) ?_;refine eF I rfl rfl EP rfl (gl _ s.rep t.rep) ?_
 clear I a;rintro e w ⟨rfl,hT⟩;replace O:Sat _ _ _:=O.ag hT;clear hT;refine⟨_,rfl,?_⟩;intro a I;refine⟨.inr fun _=>(by exact⟨[],O⟩),?_⟩;refine aE 9 (by kernel_rfl) ?_;refine eF I rfl rfl EP rfl (gl _ s.lo t.lo) ?_;clear I a;rintro e w ⟨rfl,hT⟩;replace O:Sat _ _ _:=O.ag hT;clear hT;refine⟨_,rfl,?_⟩;intro a I;refine⟨.inr fun _=>(by exact⟨[],O⟩),?_⟩;refine aE 14 (by kernel_rfl) ?_;refine eF I rfl rfl EP rfl (gl _ s.hi t.hi) ?_;clear I a;rintro e w ⟨rfl,hT⟩;replace O:Sat _ _ _:=O.ag hT;clear hT;refine⟨_,rfl,?_⟩;intro a I;refine⟨.inl rfl,?_⟩;refine aE 15 (by kernel_rfl) ?_;refine eL I rfl rfl rfl ax iU rfl rfl rfl (by simp[Value.oneCell']) O ?_;clear I a O;intro A20 w O;intro a I;refine⟨.inl rfl,?_⟩;refine aE 16 (by kernel_rfl) ?_
 refine eF I rfl rfl IW rfl (FF _ _ _ [gf s.rep t.rep,gf s.lo t.lo,gf s.hi t.hi] O.rd (by simp)) ?_;clear I a;rintro e w ⟨rfl,hT⟩;replace O:Sat _ _ _:=O.ag hT;clear hT;refine⟨_,rfl,?_⟩;intro a I;refine⟨.inl rfl,?_⟩;refine rX [17] I ?_;clear I a;intro a I;refine ah (by kernel_rfl) ?_ _;refine rE 2 I ?_;clear I a;refine aY ?_;exact⟨rfl,O.nil⟩
theorem uv (W:World)(A:Option Addr)(c:Nat)(xs:List aL)(B:Option Addr)(d:Nat)(ys:List aL)(hX:jk W A c xs)(hY:jk W B d ys)(hlx:xs.length≤1000000000000000)(hly:ys.length≤1000000000000000):Calls Tryz.prog 399 #[.slice A (xs).length c,.slice B (ys).length d,.func (.func 400) #[] #[]] W fun e w'=>e=.returned (.int .i64 (dn xs ys))∧Sat W w' []:=by
 refine bS Tryz.func399 [0,1,2] ?_;have O:=Sat.start W;refine uC 9 ?_;refine u1 4 (ak rfl dt) ?_;intro a I;refine wp_loop_ghost (fun (mm:Nat) a w=>∃(i:Nat),Ag a 39 [(0,.slice A (xs).length c),(1,.slice B (ys).length d),(2,.func (.func 400) #[] #[]),(11,.slice A (xs).length c),(12,.int .i64 ((xs.length:Nat):Int)),(13,.int .i64 ((i:Nat):Int))]∧Sat W w ([])∧(i≤xs.length)∧(i≤ys.length)∧(dn (xs.drop i) (ys.drop i)=dn xs ys)∧mm=xs.length-i) xs.length ?_ ?_
 ·replace I:=I.kp [0,1,2,11,12,13] rfl;exact⟨0,I,O,(by omega),(by omega),(by rfl),by omega⟩
 intro m a w hI;clear O I;obtain⟨i,I,O,hi,hj,he,rfl⟩:=hI;refine rC 2 I ?_;clear I a;refine aJ 0 0 (aq rfl rfl) ?_ ?_
 ·intro h14;refine uO 11 ?_;obtain⟨A_p,rfl⟩:∃q,A=some q:=(hX.sat O).au (by omega);obtain⟨x,hx⟩:∃zz_,xs[i]?=some zz_:=⟨_,List.getElem?_eq_getElem (by omega)⟩;refine u1 0 (ix rfl rfl dt cX) ?_;refine u1 0 (aG (cs:=gH x) rfl lr cX (fun j u e=>bQ (hX.sat O) (dQ hx j u e))) ?_;refine uN nK O ?_;clear O;intro b8 w O;refine uO 1 ?_;refine uW (vs:=[_,_,_]) (cs':=[_,_,_]) rfl rfl cX O ?_;clear O;intro w O;refine uO 7 ?_;refine u1 0 (ak rfl dt) ?_;refine aJ 0 0 (dF rfl rfl) ?_ ?_
  ·intro h21;refine uO 15 ?_;refine aY ?_;rw[aK hx,List.drop_of_length_le (by omega:ys.length≤i),dn]at he;exact⟨by rw[←he],O.nil⟩
  ·intro h21;refine uO 9 ?_;obtain⟨B_p,rfl⟩:∃q,B=some q:=(hY.sat O).au (by omega);obtain⟨y,hy⟩:∃zz_,ys[i]?=some zz_:=⟨_,List.getElem?_eq_getElem (by omega)⟩;refine u1 0 (ix rfl rfl dt cX) ?_;refine u1 0 (aG (cs:=gH y) rfl lr cX (fun j u e=>bQ (hY.sat O) (dQ hy j u e))) ?_;refine uN nK O ?_;clear O;intro b9 w O;refine uW (vs:=[_,_,_]) (cs':=[_,_,_]) rfl rfl cX O ?_;clear O;intro w O;refine uO 5 ?_;refine u1 0 (lS (cs:=[_,_,_]) rfl) ?_;refine u1 0 (lS (cs:=[_,_,_]) rfl) ?_;intro a I;refine Be I rfl H5 rfl rfl (vO _ x y) ?_;rintro e w ⟨rfl,hT⟩;replace O:Sat _ _ _:=O.ag hT;clear hT
   ·refine .inl ⟨_,rfl,?_⟩;clear I a;refine uO 6 ?_;refine aJ 0 0 (aD rfl rfl) ?_ ?_
    ·intro h31;refine uO 15 ?_;refine aY ?_;rw[aK hx,aK hy,dn,if_neg (by omega)]at he;exact⟨by rw[←he],O.nil⟩
    ·intro h31;refine uO 7 ?_;refine u1 2 (ad rfl rfl) ?_;intro a I;replace I:=I.kp [0,1,2,11,12,13] rfl;rw[aK hx,aK hy,dn,if_pos (by omega)]at he;exact⟨xs.length-(i+1),by omega,i+1,I,O.nil,by omega,by omega,he,rfl⟩
 ·intro h14;refine uO 13 ?_;refine u1 1 (ak rfl dt) ?_;refine u1 0 (ak rfl dt) ?_;refine aJ 0 0 (aq rfl rfl) ?_ ?_
  ·intro h38;refine uO 8 ?_;intro a I;replace I:=I.kp [6] rfl;refine rC 2 I ?_;clear I a;refine aY ?_;obtain⟨y,hy⟩:∃y,ys[i]?=some y:=⟨_,List.getElem?_eq_getElem (by omega)⟩;rw[aK hy,List.drop_of_length_le (by omega:xs.length≤i),dn]at he;exact⟨by rw[←he],O.nil⟩
  ·intro h38;refine uO 11 ?_;refine aY ?_;rw[List.drop_of_length_le (by omega:xs.length≤i),List.drop_of_length_le (by omega:ys.length≤i),dn]at he;exact⟨by rw[←he],O.nil⟩
theorem u2 (W:World)(p q:PL)(hp:p.ok W)(hq:q.ok W)(hlp:p.d.ab.length≤10000000000)(hlq:q.d.ab.length≤10000000000):Calls Tryz.prog 387 #[.agg #[.slice p.va p.d.vec.length p.vc,.slice p.ca p.d.ab.length p.cc],.agg #[.slice q.va q.d.vec.length q.vc,.slice q.ca q.d.ab.length q.cc]] W fun e w'=>e=.returned (.int .i64 (qv p.d q.d))∧Sat W w' []:=by
 refine bS Tryz.func387 [0,1] ?_;have O:=Sat.start W;refine uC 2 ?_;refine uB rfl O ?_;clear O;intro b2 w O;refine uB rfl O ?_;clear O;intro b3 w O;refine uO 3 ?_;intro a I;replace I:=I.kp [2,3,4] rfl;refine dx (fun a w=>∃(b5 b6:Nat) (x y:PL),Ag a 49 [(4,.int .i64 0),(5,.pointer (some ⟨b5,0,none⟩)),(6,.pointer (some ⟨b6,0,none⟩))]∧Sat W w ([a6 b5 (.cells #[.slice x.va x.d.vec.length x.vc,.slice x.ca x.d.ab.length x.cc] 63),a6 b6 (.cells #[.slice y.va y.d.vec.length y.vc,.slice y.ca y.d.ab.length y.cc] 63),cq 3 x.va x.vc x.d.vec,bp 219 x.ca x.cc x.d.ab,cq 3 y.va y.vc y.d.vec,bp 219 y.ca y.cc y.d.ab])∧(x.d=gS p.d)∧(y.d=gS q.d)) ?_ ?_
 ·refine bf [3,6,7] O (by kernel_rfl) ?_;replace O:=O.drew;refine X1 0 [] I rfl (by exact⟨[],O⟩) (fun w hT=>have O:=hT.sat;(aG (cs:=[_,_]) (I.ev rfl) cS aO (by exact (O.p 1).ao (xs:=[_,_]) rfl))) ?_;clear I a;refine cZ 2 [] rfl (by exact⟨[],O⟩) (fun w hT=>have O:=hT.sat;(lS (cs:=[_,_]) rfl)) ?_;intro a I;refine Fi 1 4 5 (by kernel_rfl) ?_ ?_ ?_
  ·refine eF I rfl rfl jZ rfl (ct _ p (hp.sat O) hlp) ?_;clear I a;rintro e w ⟨x,rfl,hx,hT⟩;replace O:Sat _ _ (_::_::_):=O.ag hT;clear hT;refine⟨_,rfl,?_⟩;intro a I;refine⟨.inr fun _=>(by exact⟨[_,_],O⟩),?_⟩;refine Fi 3 4 5 (by kernel_rfl) ?_ ?_ ?_
   ·refine eF I rfl rfl jZ rfl (ct _ q (hq.sat O) hlq) ?_;clear I a;rintro e w ⟨y,rfl,hy,hT⟩;replace O:Sat _ _ (_::_::_):=O.ag hT;clear hT;refine⟨_,rfl,?_⟩;intro a I;refine⟨.inl rfl,?_⟩;refine nG 4 5 (by kernel_rfl) ?_ ?_
    ·refine eN I rfl rfl cY O ?_;clear I a O;intro b5 w O;intro a I;refine⟨.inr fun _=>(by exact⟨[_,_,_,_,_],O⟩),?_⟩;refine aE 5 (by kernel_rfl) ?_;refine eN I rfl rfl cY O ?_;clear I a O;intro b6 w O;intro a I;refine⟨.inr fun _=>(by exact⟨[_,_,_,_,_,_],O⟩),?_⟩;refine aE 6 (by kernel_rfl) ?_;refine cH (vs:=[_,_]) (cs':=[_,_]) I rfl rfl rfl aO (by simp[Value.oneCell']) (O.p 1) rfl rfl ?_;clear O;intro w O;refine⟨.inl rfl,?_⟩;refine aE 7 (by kernel_rfl) ?_;refine cH (vs:=[_,_]) (cs':=[_,_]) I rfl rfl rfl aO (by simp[Value.oneCell']) (O.p 1) rfl rfl ?_;clear O;intro w O;refine⟨.inl rfl,?_⟩;refine ah (by kernel_rfl) ?_ _;replace I:=I.kp [4,5,6] rfl
     first
      | exact⟨b5,b6,x,y,I,((((((O.p 3).p 3).p 5).p 5).p 4).p 5).cw [_,_,_,_,_,_],(by exact hx),(by exact hy)⟩
    ·refine eN I rfl rfl cY O ?_;clear I a O;intro b6 w O;intro a I;refine⟨.inr fun _=>(by exact⟨[_,_,_,_,_],O⟩),?_⟩;refine aE 4 (by kernel_rfl) ?_;refine eN I rfl rfl cY O ?_;clear I a O;intro b5 w O;intro a I;refine⟨.inr fun _=>(by exact⟨[_,_,_,_,_,_],O⟩),?_⟩;refine aE 6 (by kernel_rfl) ?_;refine cH (vs:=[_,_]) (cs':=[_,_]) I rfl rfl rfl aO (by simp[Value.oneCell']) O rfl rfl ?_;clear O;intro w O;refine⟨.inl rfl,?_⟩;refine aE 7 (by kernel_rfl) ?_;refine cH (vs:=[_,_]) (cs':=[_,_]) I rfl rfl rfl aO (by simp[Value.oneCell']) (O.p 1) rfl rfl ?_;clear O;intro w O;refine⟨.inl rfl,?_⟩;refine ah (by kernel_rfl) ?_ _;replace I:=I.kp [4,5,6] rfl
     first
      | exact⟨b5,b6,x,y,I,((((((O.p 3).p 3).p 5).p 5).p 4).p 5).cw [_,_,_,_,_,_],(by exact hx),(by exact hy)⟩
   ·refine eN I rfl rfl cY O ?_;clear I a O;intro b5 w O;intro a I;refine⟨.inr fun _=>(by exact⟨[_,_,_],O⟩),?_⟩;refine nG 3 5 (by kernel_rfl) ?_ ?_
    ·refine eF I rfl rfl jZ rfl (ct _ q (hq.sat O) hlq) ?_;clear I a;rintro e w ⟨y,rfl,hy,hT⟩;replace O:Sat _ _ (_::_::_):=O.ag hT;clear hT;refine⟨_,rfl,?_⟩;intro a I;refine⟨.inl rfl,?_⟩;refine aE 5 (by kernel_rfl) ?_;refine eN I rfl rfl cY O ?_;clear I a O;intro b6 w O;intro a I;refine⟨.inr fun _=>(by exact⟨[_,_,_,_,_,_],O⟩),?_⟩;refine aE 6 (by kernel_rfl) ?_;refine cH (vs:=[_,_]) (cs':=[_,_]) I rfl rfl rfl aO (by simp[Value.oneCell']) (O.p 3) rfl rfl ?_;clear O;intro w O;refine⟨.inl rfl,?_⟩;refine aE 7 (by kernel_rfl) ?_;refine cH (vs:=[_,_]) (cs':=[_,_]) I rfl rfl rfl aO (by simp[Value.oneCell']) (O.p 1) rfl rfl ?_;clear O;intro w O;refine⟨.inl rfl,?_⟩;refine ah (by kernel_rfl) ?_ _;replace I:=I.kp [4,5,6] rfl
     first
      | exact⟨b5,b6,x,y,I,((((((O.p 3).p 3).p 5).p 5).p 4).p 5).cw [_,_,_,_,_,_],(by exact hx),(by exact hy)⟩
    ·refine eN I rfl rfl cY O ?_;clear I a O;intro b6 w O;intro a I;refine⟨.inr fun _=>(by exact⟨[_,_,_,_],O⟩),?_⟩;refine aE 3 (by kernel_rfl) ?_;refine eF I rfl rfl jZ rfl (ct _ q (hq.sat O) hlq) ?_;clear I a;rintro e w ⟨y,rfl,hy,hT⟩;replace O:Sat _ _ (_::_::_):=O.ag hT;clear hT;refine⟨_,rfl,?_⟩;intro a I;refine⟨.inl rfl,?_⟩;refine aE 6 (by kernel_rfl) ?_;refine cH (vs:=[_,_]) (cs':=[_,_]) I rfl rfl rfl aO (by simp[Value.oneCell']) (O.p 3) rfl rfl ?_;clear O;intro w O;refine⟨.inl rfl,?_⟩;refine aE 7 (by kernel_rfl) ?_;refine cH (vs:=[_,_]) (cs':=[_,_]) I rfl rfl rfl aO (by simp[Value.oneCell']) (O.p 3) rfl rfl ?_;clear O;intro w O;refine⟨.inl rfl,?_⟩;refine ah (by kernel_rfl) ?_ _;replace I:=I.kp [4,5,6] rfl
     first
      | exact⟨b5,b6,x,y,I,((((((O.p 3).p 3).p 5).p 5).p 4).p 5).cw [_,_,_,_,_,_],(by exact hx),(by exact hy)⟩
   ·refine eN I rfl rfl cY O ?_;clear I a O;intro b6 w O;intro a I;refine⟨.inr fun _=>(by exact⟨[_,_,_],O⟩),?_⟩;refine nG 3 4 (by kernel_rfl) ?_ ?_
    ·refine eF I rfl rfl jZ rfl (ct _ q (hq.sat O) hlq) ?_;clear I a;rintro e w ⟨y,rfl,hy,hT⟩;replace O:Sat _ _ (_::_::_):=O.ag hT;clear hT;refine⟨_,rfl,?_⟩;intro a I;refine⟨.inl rfl,?_⟩;refine aE 4 (by kernel_rfl) ?_;refine eN I rfl rfl cY O ?_;clear I a O;intro b5 w O;intro a I;refine⟨.inr fun _=>(by exact⟨[_,_,_,_,_,_],O⟩),?_⟩;refine aE 6 (by kernel_rfl) ?_;refine cH (vs:=[_,_]) (cs':=[_,_]) I rfl rfl rfl aO (by simp[Value.oneCell']) O rfl rfl ?_;clear O;intro w O;refine⟨.inl rfl,?_⟩;refine aE 7 (by kernel_rfl) ?_;refine cH (vs:=[_,_]) (cs':=[_,_]) I rfl rfl rfl aO (by simp[Value.oneCell']) (O.p 3) rfl rfl ?_;clear O;intro w O;refine⟨.inl rfl,?_⟩;refine ah (by kernel_rfl) ?_ _;replace I:=I.kp [4,5,6] rfl
     first
      | exact⟨b5,b6,x,y,I,((((((O.p 3).p 3).p 5).p 5).p 4).p 5).cw [_,_,_,_,_,_],(by exact hx),(by exact hy)⟩
    ·refine eN I rfl rfl cY O ?_;clear I a O;intro b5 w O;intro a I;refine⟨.inr fun _=>(by exact⟨[_,_,_,_],O⟩),?_⟩;refine aE 3 (by kernel_rfl) ?_;refine eF I rfl rfl jZ rfl (ct _ q (hq.sat O) hlq) ?_;clear I a;rintro e w ⟨y,rfl,hy,hT⟩;replace O:Sat _ _ (_::_::_):=O.ag hT;clear hT;refine⟨_,rfl,?_⟩;intro a I;refine⟨.inl rfl,?_⟩;refine aE 6 (by kernel_rfl) ?_;refine cH (vs:=[_,_]) (cs':=[_,_]) I rfl rfl rfl aO (by simp[Value.oneCell']) (O.p 2) rfl rfl ?_;clear O;intro w O;refine⟨.inl rfl,?_⟩;refine aE 7 (by kernel_rfl) ?_;refine cH (vs:=[_,_]) (cs':=[_,_]) I rfl rfl rfl aO (by simp[Value.oneCell']) (O.p 3) rfl rfl ?_;clear O;intro w O;refine⟨.inl rfl,?_⟩;refine ah (by kernel_rfl) ?_ _;replace I:=I.kp [4,5,6] rfl
     first
      | exact⟨b5,b6,x,y,I,((((((O.p 3).p 3).p 5).p 5).p 4).p 5).cw [_,_,_,_,_,_],(by exact hx),(by exact hy)⟩
  ·refine eN I rfl rfl cY O ?_;clear I a O;intro b5 w O;intro a I;refine⟨.inr fun _=>(by exact⟨[_],O⟩),?_⟩;refine nG 1 5 (by kernel_rfl) ?_ ?_
   ·refine eF I rfl rfl jZ rfl (ct _ p (hp.sat O) hlp) ?_;clear I a;rintro e w ⟨x,rfl,hx,hT⟩;replace O:Sat _ _ (_::_::_):=O.ag hT;clear hT;refine⟨_,rfl,?_⟩;intro a I;refine⟨.inr fun _=>(by exact⟨[_,_,_],O⟩),?_⟩;refine nG 3 5 (by kernel_rfl) ?_ ?_
    ·refine eF I rfl rfl jZ rfl (ct _ q (hq.sat O) hlq) ?_;clear I a;rintro e w ⟨y,rfl,hy,hT⟩;replace O:Sat _ _ (_::_::_):=O.ag hT;clear hT;refine⟨_,rfl,?_⟩;intro a I;refine⟨.inl rfl,?_⟩;refine aE 5 (by kernel_rfl) ?_;refine eN I rfl rfl cY O ?_;clear I a O;intro b6 w O;intro a I;refine⟨.inr fun _=>(by exact⟨[_,_,_,_,_,_],O⟩),?_⟩;refine aE 6 (by kernel_rfl) ?_;refine cH (vs:=[_,_]) (cs':=[_,_]) I rfl rfl rfl aO (by simp[Value.oneCell']) (O.p 5) rfl rfl ?_;clear O;intro w O;refine⟨.inl rfl,?_⟩;refine aE 7 (by kernel_rfl) ?_;refine cH (vs:=[_,_]) (cs':=[_,_]) I rfl rfl rfl aO (by simp[Value.oneCell']) (O.p 1) rfl rfl ?_;clear O;intro w O;refine⟨.inl rfl,?_⟩;refine ah (by kernel_rfl) ?_ _;replace I:=I.kp [4,5,6] rfl
     first
      | exact⟨b5,b6,x,y,I,((((((O.p 3).p 3).p 5).p 5).p 4).p 5).cw [_,_,_,_,_,_],(by exact hx),(by exact hy)⟩
    ·refine eN I rfl rfl cY O ?_;clear I a O;intro b6 w O;intro a I;refine⟨.inr fun _=>(by exact⟨[_,_,_,_],O⟩),?_⟩;refine aE 3 (by kernel_rfl) ?_;refine eF I rfl rfl jZ rfl (ct _ q (hq.sat O) hlq) ?_;clear I a;rintro e w ⟨y,rfl,hy,hT⟩;replace O:Sat _ _ (_::_::_):=O.ag hT;clear hT;refine⟨_,rfl,?_⟩;intro a I;refine⟨.inl rfl,?_⟩;refine aE 6 (by kernel_rfl) ?_;refine cH (vs:=[_,_]) (cs':=[_,_]) I rfl rfl rfl aO (by simp[Value.oneCell']) (O.p 5) rfl rfl ?_;clear O;intro w O;refine⟨.inl rfl,?_⟩;refine aE 7 (by kernel_rfl) ?_;refine cH (vs:=[_,_]) (cs':=[_,_]) I rfl rfl rfl aO (by simp[Value.oneCell']) (O.p 3) rfl rfl ?_;clear O;intro w O;refine⟨.inl rfl,?_⟩;refine ah (by kernel_rfl) ?_ _;replace I:=I.kp [4,5,6] rfl
     first
      | exact⟨b5,b6,x,y,I,((((((O.p 3).p 3).p 5).p 5).p 4).p 5).cw [_,_,_,_,_,_],(by exact hx),(by exact hy)⟩
   ·refine eN I rfl rfl cY O ?_;clear I a O;intro b6 w O;intro a I;refine⟨.inr fun _=>(by exact⟨[_,_],O⟩),?_⟩;refine aE 1 (by kernel_rfl) ?_;refine eF I rfl rfl jZ rfl (ct _ p (hp.sat O) hlp) ?_;clear I a;rintro e w ⟨x,rfl,hx,hT⟩;replace O:Sat _ _ (_::_::_):=O.ag hT;clear hT;refine⟨_,rfl,?_⟩;intro a I;refine⟨.inr fun _=>(by exact⟨[_,_,_,_],O⟩),?_⟩;refine aE 3 (by kernel_rfl) ?_;refine eF I rfl rfl jZ rfl (ct _ q (hq.sat O) hlq) ?_;clear I a;rintro e w ⟨y,rfl,hy,hT⟩;replace O:Sat _ _ (_::_::_):=O.ag hT;clear hT;refine⟨_,rfl,?_⟩;intro a I;refine⟨.inl rfl,?_⟩;refine aE 6 (by kernel_rfl) ?_;refine cH (vs:=[_,_]) (cs':=[_,_]) I rfl rfl rfl aO (by simp[Value.oneCell']) (O.p 5) rfl rfl ?_;clear O;intro w O;refine⟨.inl rfl,?_⟩;refine aE 7 (by kernel_rfl) ?_
    refine cH (vs:=[_,_]) (cs':=[_,_]) I rfl rfl rfl aO (by simp[Value.oneCell']) (O.p 5) rfl rfl ?_;clear O;intro w O;refine⟨.inl rfl,?_⟩;refine ah (by kernel_rfl) ?_ _;replace I:=I.kp [4,5,6] rfl
    first
     | exact⟨b5,b6,x,y,I,((((((O.p 3).p 3).p 5).p 5).p 4).p 5).cw [_,_,_,_,_,_],(by exact hx),(by exact hy)⟩
  ·refine eN I rfl rfl cY O ?_;clear I a O;intro b6 w O;intro a I;refine⟨.inr fun _=>(by exact⟨[_],O⟩),?_⟩;refine nG 1 4 (by kernel_rfl) ?_ ?_
   ·refine eF I rfl rfl jZ rfl (ct _ p (hp.sat O) hlp) ?_;clear I a;rintro e w ⟨x,rfl,hx,hT⟩;replace O:Sat _ _ (_::_::_):=O.ag hT;clear hT;refine⟨_,rfl,?_⟩;intro a I;refine⟨.inr fun _=>(by exact⟨[_,_,_],O⟩),?_⟩;refine nG 3 4 (by kernel_rfl) ?_ ?_
    ·refine eF I rfl rfl jZ rfl (ct _ q (hq.sat O) hlq) ?_;clear I a;rintro e w ⟨y,rfl,hy,hT⟩;replace O:Sat _ _ (_::_::_):=O.ag hT;clear hT;refine⟨_,rfl,?_⟩;intro a I;refine⟨.inl rfl,?_⟩;refine aE 4 (by kernel_rfl) ?_;refine eN I rfl rfl cY O ?_;clear I a O;intro b5 w O;intro a I;refine⟨.inr fun _=>(by exact⟨[_,_,_,_,_,_],O⟩),?_⟩;refine aE 6 (by kernel_rfl) ?_;refine cH (vs:=[_,_]) (cs':=[_,_]) I rfl rfl rfl aO (by simp[Value.oneCell']) O rfl rfl ?_;clear O;intro w O;refine⟨.inl rfl,?_⟩;refine aE 7 (by kernel_rfl) ?_;refine cH (vs:=[_,_]) (cs':=[_,_]) I rfl rfl rfl aO (by simp[Value.oneCell']) (O.p 5) rfl rfl ?_;clear O;intro w O;refine⟨.inl rfl,?_⟩;refine ah (by kernel_rfl) ?_ _;replace I:=I.kp [4,5,6] rfl
     first
      | exact⟨b5,b6,x,y,I,((((((O.p 3).p 3).p 5).p 5).p 4).p 5).cw [_,_,_,_,_,_],(by exact hx),(by exact hy)⟩
    ·refine eN I rfl rfl cY O ?_;clear I a O;intro b5 w O;intro a I;refine⟨.inr fun _=>(by exact⟨[_,_,_,_],O⟩),?_⟩;refine aE 3 (by kernel_rfl) ?_;refine eF I rfl rfl jZ rfl (ct _ q (hq.sat O) hlq) ?_;clear I a;rintro e w ⟨y,rfl,hy,hT⟩;replace O:Sat _ _ (_::_::_):=O.ag hT;clear hT;refine⟨_,rfl,?_⟩;intro a I;refine⟨.inl rfl,?_⟩;refine aE 6 (by kernel_rfl) ?_;refine cH (vs:=[_,_]) (cs':=[_,_]) I rfl rfl rfl aO (by simp[Value.oneCell']) (O.p 2) rfl rfl ?_;clear O;intro w O;refine⟨.inl rfl,?_⟩;refine aE 7 (by kernel_rfl) ?_;refine cH (vs:=[_,_]) (cs':=[_,_]) I rfl rfl rfl aO (by simp[Value.oneCell']) (O.p 5) rfl rfl ?_;clear O;intro w O;refine⟨.inl rfl,?_⟩;refine ah (by kernel_rfl) ?_ _;replace I:=I.kp [4,5,6] rfl
     first
      | exact⟨b5,b6,x,y,I,((((((O.p 3).p 3).p 5).p 5).p 4).p 5).cw [_,_,_,_,_,_],(by exact hx),(by exact hy)⟩
   ·refine eN I rfl rfl cY O ?_;clear I a O;intro b5 w O;intro a I;refine⟨.inr fun _=>(by exact⟨[_,_],O⟩),?_⟩;refine aE 1 (by kernel_rfl) ?_;refine eF I rfl rfl jZ rfl (ct _ p (hp.sat O) hlp) ?_;clear I a;rintro e w ⟨x,rfl,hx,hT⟩;replace O:Sat _ _ (_::_::_):=O.ag hT;clear hT;refine⟨_,rfl,?_⟩;intro a I;refine⟨.inr fun _=>(by exact⟨[_,_,_,_],O⟩),?_⟩;refine aE 3 (by kernel_rfl) ?_;refine eF I rfl rfl jZ rfl (ct _ q (hq.sat O) hlq) ?_;clear I a;rintro e w ⟨y,rfl,hy,hT⟩;replace O:Sat _ _ (_::_::_):=O.ag hT;clear hT;refine⟨_,rfl,?_⟩;intro a I;refine⟨.inl rfl,?_⟩;refine aE 6 (by kernel_rfl) ?_;refine cH (vs:=[_,_]) (cs':=[_,_]) I rfl rfl rfl aO (by simp[Value.oneCell']) (O.p 4) rfl rfl ?_;clear O;intro w O;refine⟨.inl rfl,?_⟩;refine aE 7 (by kernel_rfl) ?_
    refine cH (vs:=[_,_]) (cs':=[_,_]) I rfl rfl rfl aO (by simp[Value.oneCell']) (O.p 5) rfl rfl ?_;clear O;intro w O;refine⟨.inl rfl,?_⟩;refine ah (by kernel_rfl) ?_ _;replace I:=I.kp [4,5,6] rfl
    first
     | exact⟨b5,b6,x,y,I,((((((O.p 3).p 3).p 5).p 5).p 4).p 5).cw [_,_,_,_,_,_],(by exact hx),(by exact hy)⟩
 ·intro a w hI;clear O I;obtain⟨b5,b6,x,y,I,O,hx,hy⟩:=hI;have hcx:=i6 p.d;rw[←hx]at hcx;have hcy:=i6 q.d;rw[←hy]at hcy;have hlx:=jP p.d;rw[←hx]at hlx;have hly:=jP q.d;rw[←hy]at hly;have hxv:=hcx.len;have hyv:=hcy.len;obtain⟨xva,xvc,xca,xcc,xd⟩:=x;obtain⟨yva,yvc,yca,ycc,yd⟩:=y;dsimp only at O I hx hy hcx hcy hlx hly hxv hyv;refine rC 7 I ?_;clear I a;intro a I
  refine wp_loop_ghost (fun (mm:Nat) a w=>∃(r:Nat),Ag a 49 [(5,.pointer (some ⟨b5,0,none⟩)),(6,.pointer (some ⟨b6,0,none⟩)),(14,.int .i64 ((r:Nat):Int))]∧Sat W w ([a6 b5 (.cells #[.slice xva xd.vec.length xvc,.slice xca xd.ab.length xcc] 63),a6 b6 (.cells #[.slice yva yd.vec.length yvc,.slice yca yd.ab.length ycc] 63),cq 3 xva xvc xd.vec,bp 219 xca xcc xd.ab,cq 3 yva yvc yd.vec,bp 219 yca ycc yd.ab])∧(r≤16)∧(cx (((List.range 16).map fun r=>gf (ay xd.vec r) (ay yd.vec r)).take r)=0)∧mm=16-r) 16 ?_ ?_
  ·replace I:=I.kp [5,6,14] rfl;exact⟨0,I,O,(by omega),(by rfl),by omega⟩
  intro m a w hI;clear O I;obtain⟨r,I,O,hr,he,rfl⟩:=hI;refine rC 2 I ?_;clear I a;refine aJ 0 0 (aq rfl rfl) ?_ ?_
  ·intro h15;refine uO 24 ?_;refine u1 0 (aa rfl cD) ?_;refine u1 0 (ld rfl) ?_;refine u1 0 (ak rfl ax) ?_;refine aJ 0 0 (aq rfl rfl) ?_ ?_
   ·intro h21;refine uO 4 ?_;refine u1 0 (aa rfl cD) ?_;refine u1 1 (ld rfl) ?_;obtain⟨xva_p,rfl⟩:∃q,xva=some q:=(O.p 2).rd.au (by omega);obtain⟨v1,hv1⟩:∃zz_,xd.vec[r]?=some zz_:=⟨_,List.getElem?_eq_getElem (by omega)⟩;refine u1 0 (ix rfl rfl ax eP) ?_;refine u1 7 (an rfl dA (fP (O.p 2).rd (bu hv1))) ?_;refine u1 0 (aa rfl cD) ?_;refine u1 0 (ld rfl) ?_;refine u1 0 (ak rfl ax) ?_;refine aJ 0 0 (aq rfl rfl) ?_ ?_
    ·intro h31;refine uO 4 ?_;refine u1 0 (aa rfl cD) ?_;refine u1 1 (ld rfl) ?_;obtain⟨yva_p,rfl⟩:∃q,yva=some q:=(O.p 4).rd.au (by omega);obtain⟨v2,hv2⟩:∃zz_,yd.vec[r]?=some zz_:=⟨_,List.getElem?_eq_getElem (by omega)⟩;refine u1 0 (ix rfl rfl ax eP) ?_;refine u1 7 (an rfl dA (fP (O.p 4).rd (bu hv2))) ?_;refine aJ 0 0 (aD rfl rfl) ?_ ?_
     ·intro h39;refine uO 7 ?_;refine uF rfl (gl _ _ _) ?_;rintro e w ⟨rfl,hT⟩;replace O:Sat _ _ _:=O.ag hT;clear hT;refine uO 9 ?_;refine aY ?_;have hg:((List.range 16).map fun r=>gf (ay xd.vec r) (ay yd.vec r))[r]?=some (gf (ay xd.vec r) (ay yd.vec r)):=by rw[List.getElem?_map,List.getElem?_range (by omega)];rfl
      have hvx:=dy hv1;have hvy:=dy hv2;have hne:gf (ay xd.vec r) (ay yd.vec r)≠0:=by rw[hvx,hvy];exact kb h39
      have hz:=ly hg he hne;refine⟨?_,O.nil⟩;unfold qv si;rw[←hx,←hy,cg,hz,if_neg hne,hvx,hvy]
     ·intro h39;refine uO 7 ?_;refine u1 2 (ad rfl rfl) ?_;intro a I;replace I:=I.kp [5,6,14] rfl;have hg:((List.range 16).map fun r=>gf (ay xd.vec r) (ay yd.vec r))[r]?=some (gf (ay xd.vec r) (ay yd.vec r)):=by rw[List.getElem?_map,List.getElem?_range (by omega)];rfl
      have hvx:=dy hv1;have hvy:=dy hv2;exact⟨16-(r+1),by omega,r+1,I,O,by omega,kA hg he (by rw[hvx,hvy];exact eM.2 (by omega)),rfl⟩
    ·intro h31;refine uO 9 ?_;refine aJ 0 0 (aD rfl rfl) ?_ ?_
     ·intro h39;refine uO 7 ?_;refine uF rfl (gl _ _ _) ?_;rintro e w ⟨rfl,hT⟩;replace O:Sat _ _ _:=O.ag hT;clear hT;refine uO 9 ?_;refine aY ?_;have hg:((List.range 16).map fun r=>gf (ay xd.vec r) (ay yd.vec r))[r]?=some (gf (ay xd.vec r) (ay yd.vec r)):=by rw[List.getElem?_map,List.getElem?_range (by omega)];rfl
      have hvx:=dy hv1;have hvy:ay yd.vec r=0:=eK (by omega);have hne:gf (ay xd.vec r) (ay yd.vec r)≠0:=by rw[hvx,hvy];exact kb h39
      have hz:=ly hg he hne;refine⟨?_,O.nil⟩;unfold qv si;rw[←hx,←hy,cg,hz,if_neg hne,hvx,hvy]
     ·intro h39;refine uO 7 ?_;refine u1 2 (ad rfl rfl) ?_;intro a I;replace I:=I.kp [5,6,14] rfl;have hg:((List.range 16).map fun r=>gf (ay xd.vec r) (ay yd.vec r))[r]?=some (gf (ay xd.vec r) (ay yd.vec r)):=by rw[List.getElem?_map,List.getElem?_range (by omega)];rfl
      have hvx:=dy hv1;have hvy:ay yd.vec r=0:=eK (by omega);exact⟨16-(r+1),by omega,r+1,I,O,by omega,kA hg he (by rw[hvx,hvy];exact eM.2 (by omega)),rfl⟩
   ·intro h21;refine uO 9 ?_;refine u1 0 (aa rfl cD) ?_;refine u1 0 (ld rfl) ?_;refine u1 0 (ak rfl ax) ?_;refine aJ 0 0 (aq rfl rfl) ?_ ?_
    ·intro h31;refine uO 4 ?_;refine u1 0 (aa rfl cD) ?_;refine u1 1 (ld rfl) ?_;obtain⟨yva_p,rfl⟩:∃q,yva=some q:=(O.p 4).rd.au (by omega);obtain⟨v2,hv2⟩:∃zz_,yd.vec[r]?=some zz_:=⟨_,List.getElem?_eq_getElem (by omega)⟩;refine u1 0 (ix rfl rfl ax eP) ?_;refine u1 7 (an rfl dA (fP (O.p 4).rd (bu hv2))) ?_;refine aJ 0 0 (aD rfl rfl) ?_ ?_
     ·intro h39;refine uO 7 ?_;refine uF rfl (gl _ _ _) ?_;rintro e w ⟨rfl,hT⟩;replace O:Sat _ _ _:=O.ag hT;clear hT;refine uO 9 ?_;refine aY ?_;have hg:((List.range 16).map fun r=>gf (ay xd.vec r) (ay yd.vec r))[r]?=some (gf (ay xd.vec r) (ay yd.vec r)):=by rw[List.getElem?_map,List.getElem?_range (by omega)];rfl
      have hvx:ay xd.vec r=0:=eK (by omega);have hvy:=dy hv2;have hne:gf (ay xd.vec r) (ay yd.vec r)≠0:=by rw[hvx,hvy];exact kb h39
      have hz:=ly hg he hne;refine⟨?_,O.nil⟩;unfold qv si;rw[←hx,←hy,cg,hz,if_neg hne,hvx,hvy]
     ·intro h39;refine uO 7 ?_;refine u1 2 (ad rfl rfl) ?_;intro a I;replace I:=I.kp [5,6,14] rfl;have hg:((List.range 16).map fun r=>gf (ay xd.vec r) (ay yd.vec r))[r]?=some (gf (ay xd.vec r) (ay yd.vec r)):=by rw[List.getElem?_map,List.getElem?_range (by omega)];rfl
      have hvx:ay xd.vec r=0:=eK (by omega);have hvy:=dy hv2;exact⟨16-(r+1),by omega,r+1,I,O,by omega,kA hg he (by rw[hvx,hvy];exact eM.2 (by omega)),rfl⟩
    ·intro h31;refine uO 9 ?_;refine u1 7 (dz (aD rfl rfl) (by omega)) ?_;refine u1 2 (ad rfl rfl) ?_;intro a I;replace I:=I.kp [5,6,14] rfl;have hg:((List.range 16).map fun r=>gf (ay xd.vec r) (ay yd.vec r))[r]?=some (gf (ay xd.vec r) (ay yd.vec r)):=by rw[List.getElem?_map,List.getElem?_range (by omega)];rfl
     have hvx:ay xd.vec r=0:=eK (by omega);have hvy:ay yd.vec r=0:=eK (by omega);exact⟨16-(r+1),by omega,r+1,I,O,by omega,kA hg he (by rw[hvx,hvy];exact eM.2 (by omega)),rfl⟩
  ·intro h15;refine uO 11 ?_;refine u1 0 (aa rfl cd) ?_;refine u1 0 (ld rfl) ?_;refine u1 0 (aa rfl cd) ?_;refine u1 0 (ld rfl) ?_;refine uF rfl (uv _ xca xcc xd.ab yca ycc yd.ab (O.p 3).rd (O.p 5).rd (by omega) (by omega)) ?_;rintro e w ⟨rfl,hT⟩;replace O:Sat _ _ _:=O.ag hT;clear hT;refine uO 4 ?_;refine aY ?_;rw[List.take_of_length_le (by simp;omega)]at he;refine⟨?_,O.nil⟩;unfold qv si;rw[←hx,←hy,cg,he,if_pos rfl,cx]
   split<;>rename_i hc
   ·rw[hc];rfl
   ·rfl
theorem pM (W:World)(p q:PL)(hp:p.ok W)(hq:q.ok W)(hlp:p.d.ab.length≤10000000000)(hlq:q.d.ab.length≤10000000000):Calls Tryz.prog 354 #[.agg #[.slice p.va p.d.vec.length p.vc,.slice p.ca p.d.ab.length p.cc],.agg #[.slice q.va q.d.vec.length q.vc,.slice q.ca q.d.ab.length q.cc]] W fun e w'=>e=.returned (.bool (ck p.d q.d))∧Sat W w' []:=by
 refine bS Tryz.func354 [0,1] ?_;have O:=Sat.start W;refine uC 2 ?_;refine uB rfl O ?_;clear O;intro b2 w O;refine uB rfl O ?_;clear O;intro b3 w O;refine uO 3 ?_;intro a I;replace I:=I.kp [2,3,4] rfl;refine dx (fun a w=>∃(t1 t2:Nat) (ls1 ls2:List (Loc bA)),Ag a 39 [(4,.bool false),(5,.pointer (some ⟨t1,0,none⟩)),(6,.pointer (some ⟨t2,0,none⟩))]∧Sat W w ([kj 355 t1 ls1,bB (ls1.map (Loc.jF 357)),kj 355 t2 ls2,bB (ls2.map (Loc.jF 357))])∧(gZ ls1 (cR p.d))∧(gZ ls2 (cR q.d))) ?_ ?_
 ·refine bf [5] O (by kernel_rfl) ?_;replace O:=O.drew;refine X1 0 [] I rfl (by exact⟨[],O⟩) (fun w hT=>have O:=hT.sat;(aG (cs:=[_,_]) (I.ev rfl) cS aO (by exact (O.p 1).ao (xs:=[_,_]) rfl))) ?_;clear I a;refine cZ 3 [] rfl (by exact⟨[],O⟩) (fun w hT=>have O:=hT.sat;(lS (cs:=[_,_]) rfl)) ?_;intro a I;refine nG 1 4 (by kernel_rfl) ?_ ?_
  ·refine xP (vss:=[[_,_]]) I rfl rfl rfl fF qo rfl rfl rfl (by simp) rfl O ?_;clear I a O;intro A9 w O;intro a I;refine⟨.inr fun _=>(by exact⟨[_],O⟩),?_⟩;refine nG 2 4 (by kernel_rfl) ?_ ?_
   ·refine eF I rfl rfl nN rfl (l7 _ _ _ p (by exact O.rd) (hp.sat O) hlp) ?_;clear I a;rintro e w ⟨t1,ls1,rfl,hT1,hT⟩;replace O:Sat _ _ (_::_::_):=O.ag hT;clear hT;refine⟨_,rfl,?_⟩;intro a I;refine⟨.inr fun _=>(by exact⟨[_,_,_],O⟩),?_⟩;refine aE 4 (by kernel_rfl) ?_;refine xP (vss:=[[_,_]]) I rfl rfl rfl fF qo rfl rfl rfl (by simp) rfl O ?_;clear I a O;intro A12 w O;intro a I;refine⟨.inr fun _=>(by exact⟨[_,_,_,_],O⟩),?_⟩;refine aE 5 (by kernel_rfl) ?_;refine eF I rfl rfl nN rfl (l7 _ _ _ q (by exact O.rd) (hq.sat O) hlq) ?_;clear I a;rintro e w ⟨t2,ls2,rfl,hT2,hT⟩;replace O:Sat _ _ (_::_::_):=O.ag hT;clear hT;refine⟨_,rfl,?_⟩;intro a I;refine⟨.inl rfl,?_⟩;refine rX [6,7] I ?_;clear I a;intro a I;refine ah (by kernel_rfl) ?_ _;replace I:=I.kp [4,5,6] rfl
    first
     | exact⟨t1,t2,ls1,ls2,I,((((O.p 1).p 1).p 4).p 4).cw [_,_,_,_],(by exact hT1),(by exact hT2)⟩
   ·refine xP (vss:=[[_,_]]) I rfl rfl rfl fF qo rfl rfl rfl (by simp) rfl O ?_;clear I a O;intro A12 w O;intro a I;refine⟨.inr fun _=>(by exact⟨[_,_],O⟩),?_⟩;refine aE 2 (by kernel_rfl) ?_;refine eF I rfl rfl nN rfl (l7 _ _ _ p (by exact (O.p 1).rd) (hp.sat O) hlp) ?_;clear I a;rintro e w ⟨t1,ls1,rfl,hT1,hT⟩;replace O:Sat _ _ (_::_::_):=O.ag hT;clear hT;refine⟨_,rfl,?_⟩;intro a I;refine⟨.inr fun _=>(by exact⟨[_,_,_,_],O⟩),?_⟩;refine aE 5 (by kernel_rfl) ?_;refine eF I rfl rfl nN rfl (l7 _ _ _ q (by exact (O.p 2).rd) (hq.sat O) hlq) ?_;clear I a;rintro e w ⟨t2,ls2,rfl,hT2,hT⟩;replace O:Sat _ _ (_::_::_):=O.ag hT;clear hT;refine⟨_,rfl,?_⟩;intro a I;refine⟨.inl rfl,?_⟩;refine rX [6,7] I ?_;clear I a;intro a I;refine ah (by kernel_rfl) ?_ _;replace I:=I.kp [4,5,6] rfl
    first
     | exact⟨t1,t2,ls1,ls2,I,((((O.p 1).p 1).p 3).p 3).cw [_,_,_,_],(by exact hT1),(by exact hT2)⟩
  ·refine xP (vss:=[[_,_]]) I rfl rfl rfl fF qo rfl rfl rfl (by simp) rfl O ?_;clear I a O;intro A12 w O;intro a I;refine⟨.inr fun _=>(by exact⟨[_],O⟩),?_⟩;refine aE 1 (by kernel_rfl) ?_;refine xP (vss:=[[_,_]]) I rfl rfl rfl fF qo rfl rfl rfl (by simp) rfl O ?_;clear I a O;intro A9 w O;intro a I;refine⟨.inr fun _=>(by exact⟨[_,_],O⟩),?_⟩;refine aE 2 (by kernel_rfl) ?_;refine eF I rfl rfl nN rfl (l7 _ _ _ p (by exact O.rd) (hp.sat O) hlp) ?_;clear I a;rintro e w ⟨t1,ls1,rfl,hT1,hT⟩;replace O:Sat _ _ (_::_::_):=O.ag hT;clear hT;refine⟨_,rfl,?_⟩;intro a I;refine⟨.inr fun _=>(by exact⟨[_,_,_,_],O⟩),?_⟩;refine aE 5 (by kernel_rfl) ?_;refine eF I rfl rfl nN rfl (l7 _ _ _ q (by exact (O.p 3).rd) (hq.sat O) hlq) ?_;clear I a;rintro e w ⟨t2,ls2,rfl,hT2,hT⟩;replace O:Sat _ _ (_::_::_):=O.ag hT;clear hT;refine⟨_,rfl,?_⟩
   intro a I;refine⟨.inl rfl,?_⟩;refine rX [6,7] I ?_;clear I a;intro a I;refine ah (by kernel_rfl) ?_ _;replace I:=I.kp [4,5,6] rfl
   first
    | exact⟨t1,t2,ls1,ls2,I,((((O.p 1).p 1).p 3).p 3).cw [_,_,_,_],(by exact hT1),(by exact hT2)⟩
 ·intro a w hI;clear O I;obtain⟨t1,t2,ls1,ls2,I,O,hT1,hT2⟩:=hI;refine rC 7 I ?_;clear I a;intro a I;refine wp_loop_ghost (fun (mm:Nat) a w=>∃(r:Nat),Ag a 39 [(5,.pointer (some ⟨t1,0,none⟩)),(6,.pointer (some ⟨t2,0,none⟩)),(14,.int .i64 ((r:Nat):Int))]∧Sat W w ([kj 355 t1 ls1,bB (ls1.map (Loc.jF 357)),kj 355 t2 ls2,bB (ls2.map (Loc.jF 357))])∧(r≤16)∧(∀k,k<r→eB (av (cR p.d k)) (av (cR q.d k))=[])∧mm=16-r) 16 ?_ ?_
  ·replace I:=I.kp [5,6,14] rfl;exact⟨0,I,O,(by omega),(by exact fun k hk=>absurd hk (Nat.not_lt_zero k)),by omega⟩
  intro m a w hI;clear O I;obtain⟨r,I,O,hr,hw,rfl⟩:=hI;refine rC 2 I ?_;clear I a;refine aJ 0 0 (aq rfl rfl) ?_ ?_
  ·intro h15;obtain⟨lA,lc,hl1⟩:=hT1.get (show r<16 by omega);obtain⟨mA,mc,hl2⟩:=hT2.get (show r<16 by omega);have hrl:=sH hlp r (by omega);have hrm:=sH hlq r (by omega);refine uO 15 ?_;intro a I;refine bf [18] O (by kernel_rfl) ?_;replace O:=O.drew;refine rX [0,1] I ?_;clear I a;refine bF 2 [] rfl (fun w=>(bc rfl)) ?_;refine bF 3 [] rfl (fun w=>(iA rfl rfl l6 ji)) ?_;refine cZ 4 [] rfl (by exact⟨[],O⟩) (fun w hT=>have O:=hT.sat;(an rfl lh (gR O hl1))) ?_;refine bF 5 [] rfl (fun w=>(ak rfl bU)) ?_;intro a I;refine K.zh 6 I pk rfl rfl rfl rfl (by kernel_rfl) (by kernel_rfl) (by kernel_rfl) (fun w=>(cG (I.ev rfl) (I.ev rfl))) ?_ ?_
   ·clear I a;intro h23;intro a I;dsimp only at h23;refine rX [7,8,9] I ?_;clear I a;refine bF 10 [] rfl (fun w=>(bc rfl)) ?_;refine bF 11 [] rfl (fun w=>(iA rfl rfl l6 ji)) ?_;refine cZ 12 [13,14] rfl (by exact⟨[],O⟩) (fun w hT=>have O:=hT.sat;(an rfl lh (gR O hl1))) ?_;refine bF 15 [] rfl (fun w=>(bc rfl)) ?_;refine bF 16 [] rfl (fun w=>(iA rfl rfl l6 ji)) ?_;refine cZ 17 [] rfl (by exact⟨[],O⟩) (fun w hT=>have O:=hT.sat;(an rfl lh (gR (O.p 2) hl2))) ?_;intro a I;refine aE 18 (by kernel_rfl) ?_;refine Fb I rfl (aT I rfl rfl rfl) rfl Io rfl (yq _ lA lc (cR p.d r) mA mc (cR q.d r) (sn (O.p 1) hl1) (sn (O.p 3) hl2) hrl hrm) ?_;clear I a;rintro e w ⟨rfl,hT⟩;replace O:Sat _ _ _:=O.ag hT;clear hT;refine⟨_,rfl,?_⟩;intro a I;refine⟨.inl rfl,?_⟩
    refine K.D7 19 I pk rfl (aT I rfl rfl rfl) rfl rfl (by kernel_rfl) (by kernel_rfl) (by kernel_rfl) (fun w=>(aB (I.ev rfl))) ?_ ?_
    ·clear I a;intro h36;intro a I;simp only[Bool.not_eq_true',decide_eq_false_iff_not]at h36;refine rX [20] I ?_;clear I a;intro a I;refine ah (by kernel_rfl) ?_ _;refine rE 13 I ?_;clear I a;refine aY ?_;exact⟨by rw[DW (by omega) h36],O.nil⟩
    ·clear I a;intro h36;intro a I;simp only[Bool.not_eq_false',decide_eq_true_eq]at h36;refine rX [20] I ?_;clear I a;intro a I;refine ah (by kernel_rfl) ?_ _;refine rE 6 I ?_;clear I a;refine u1 2 (ad rfl rfl) ?_;intro a I;replace I:=I.kp [5,6,14] rfl;refine⟨16-(r+1),by omega,r+1,I,O,by omega,fun k hk=>?_,rfl⟩;rcases Nat.lt_or_ge k r with hkr | hkr
     ·exact hw k hkr
     ·obtain rfl:k=r:=by omega
      exact h36
   ·clear I a;intro h23;intro a I;dsimp only at h23;refine rX [7,8,9,10,11,12,13,14,15,16,17,18,19,20] I ?_;clear I a;intro a I;refine ah (by kernel_rfl) ?_ _;refine rE 6 I ?_;clear I a;refine u1 2 (ad rfl rfl) ?_;intro a I;replace I:=I.kp [5,6,14] rfl;refine⟨16-(r+1),by omega,r+1,I,O,by omega,fun k hk=>?_,rfl⟩;rcases Nat.lt_or_ge k r with hkr | hkr
    ·exact hw k hkr
    ·obtain rfl:k=r:=by omega
     exact zn _ (by omega)
  ·intro h15;refine uO 15 ?_;refine aY ?_;exact⟨by rw[Bp fun k hk=>hw k (by omega)],O.nil⟩
theorem Bo (W:World)(p q:PL)(hp:p.ok W)(hq:q.ok W)(hlp:p.d.ab.length≤10000000000)(hlq:q.d.ab.length≤10000000000):Calls Tryz.prog 390 #[.agg #[.slice p.va p.d.vec.length p.vc,.slice p.ca p.d.ab.length p.cc],.agg #[.slice q.va q.d.vec.length q.vc,.slice q.ca q.d.ab.length q.cc],.func (.func 388) #[] #[]] W fun e w'=>∃z:PL,e=.returned (.agg #[.slice z.va z.d.vec.length z.vc,.slice z.ca z.d.ab.length z.cc])∧z.d=ke p.d q.d∧Sat W w' [cq 3 z.va z.vc z.d.vec,bp 219 z.ca z.cc z.d.ab]:=by
 refine bS Tryz.func390 [0,1,2] ?_;have O:=Sat.start W;refine uC 2 ?_;refine uB rfl O ?_;clear O;intro b3 w O;refine uB rfl O ?_;clear O;intro b4 w O;refine uN cY O ?_;clear O;intro b6 w O;refine uO 2 ?_;intro a I;replace I:=I.kp [2,3,4,6] rfl;refine dx (fun a w=>∃(t1 t2:Nat) (ls1 ls2:List (Loc bA)),Ag a 38 [(2,.func (.func 388) #[] #[]),(6,.pointer (some ⟨b6,0,none⟩)),(7,.pointer (some ⟨t1,0,none⟩)),(8,.pointer (some ⟨t2,0,none⟩))]∧Sat W w ([kj 355 t1 ls1,bB (ls1.map (Loc.jF 357)),kj 355 t2 ls2,bB (ls2.map (Loc.jF 357)),a6 b6 (.cells #[.slice none 0 0,.slice none 0 0] 63)])∧(gZ ls1 (cR p.d))∧(gZ ls2 (cR q.d))) ?_ ?_
 ·refine bf [5] O (by kernel_rfl) ?_;replace O:=O.drew;refine X1 0 [] I rfl (by exact⟨[],O⟩) (fun w hT=>have O:=hT.sat;(aG (cs:=[_,_]) (I.ev rfl) cS aO (by exact (O.p 2).ao (xs:=[_,_]) rfl))) ?_;clear I a;refine cZ 3 [] rfl (by exact⟨[],O⟩) (fun w hT=>have O:=hT.sat;(lS (cs:=[_,_]) rfl)) ?_;intro a I;refine nG 1 4 (by kernel_rfl) ?_ ?_
  ·refine xP (vss:=[[_,_]]) I rfl rfl rfl fF qo rfl rfl rfl (by simp) rfl O ?_;clear I a O;intro A11 w O;intro a I;refine⟨.inr fun _=>(by exact⟨[_],O⟩),?_⟩;refine nG 2 4 (by kernel_rfl) ?_ ?_
   ·refine eF I rfl rfl nN rfl (l7 _ _ _ p (by exact O.rd) (hp.sat O) hlp) ?_;clear I a;rintro e w ⟨t1,ls1,rfl,hT1,hT⟩;replace O:Sat _ _ (_::_::_):=O.ag hT;clear hT;refine⟨_,rfl,?_⟩;intro a I;refine⟨.inr fun _=>(by exact⟨[_,_,_],O⟩),?_⟩;refine aE 4 (by kernel_rfl) ?_;refine xP (vss:=[[_,_]]) I rfl rfl rfl fF qo rfl rfl rfl (by simp) rfl O ?_;clear I a O;intro A14 w O;intro a I;refine⟨.inr fun _=>(by exact⟨[_,_,_,_],O⟩),?_⟩;refine aE 5 (by kernel_rfl) ?_;refine eF I rfl rfl nN rfl (l7 _ _ _ q (by exact O.rd) (hq.sat O) hlq) ?_;clear I a;rintro e w ⟨t2,ls2,rfl,hT2,hT⟩;replace O:Sat _ _ (_::_::_):=O.ag hT;clear hT;refine⟨_,rfl,?_⟩;intro a I;refine⟨.inl rfl,?_⟩;refine rX [6,7] I ?_;clear I a;intro a I;refine ah (by kernel_rfl) ?_ _;replace I:=I.kp [2,6,7,8] rfl
    first
     | exact⟨t1,t2,ls1,ls2,I,(((((O.p 6).p 2).p 2).p 5).p 5).cw [_,_,_,_,_],(by exact hT1),(by exact hT2)⟩
   ·refine xP (vss:=[[_,_]]) I rfl rfl rfl fF qo rfl rfl rfl (by simp) rfl O ?_;clear I a O;intro A14 w O;intro a I;refine⟨.inr fun _=>(by exact⟨[_,_],O⟩),?_⟩;refine aE 2 (by kernel_rfl) ?_;refine eF I rfl rfl nN rfl (l7 _ _ _ p (by exact (O.p 1).rd) (hp.sat O) hlp) ?_;clear I a;rintro e w ⟨t1,ls1,rfl,hT1,hT⟩;replace O:Sat _ _ (_::_::_):=O.ag hT;clear hT;refine⟨_,rfl,?_⟩;intro a I;refine⟨.inr fun _=>(by exact⟨[_,_,_,_],O⟩),?_⟩;refine aE 5 (by kernel_rfl) ?_;refine eF I rfl rfl nN rfl (l7 _ _ _ q (by exact (O.p 2).rd) (hq.sat O) hlq) ?_;clear I a;rintro e w ⟨t2,ls2,rfl,hT2,hT⟩;replace O:Sat _ _ (_::_::_):=O.ag hT;clear hT;refine⟨_,rfl,?_⟩;intro a I;refine⟨.inl rfl,?_⟩;refine rX [6,7] I ?_;clear I a;intro a I;refine ah (by kernel_rfl) ?_ _;replace I:=I.kp [2,6,7,8] rfl
    first
     | exact⟨t1,t2,ls1,ls2,I,(((((O.p 6).p 2).p 2).p 4).p 4).cw [_,_,_,_,_],(by exact hT1),(by exact hT2)⟩
  ·refine xP (vss:=[[_,_]]) I rfl rfl rfl fF qo rfl rfl rfl (by simp) rfl O ?_;clear I a O;intro A14 w O;intro a I;refine⟨.inr fun _=>(by exact⟨[_],O⟩),?_⟩;refine aE 1 (by kernel_rfl) ?_;refine xP (vss:=[[_,_]]) I rfl rfl rfl fF qo rfl rfl rfl (by simp) rfl O ?_;clear I a O;intro A11 w O;intro a I;refine⟨.inr fun _=>(by exact⟨[_,_],O⟩),?_⟩;refine aE 2 (by kernel_rfl) ?_;refine eF I rfl rfl nN rfl (l7 _ _ _ p (by exact O.rd) (hp.sat O) hlp) ?_;clear I a;rintro e w ⟨t1,ls1,rfl,hT1,hT⟩;replace O:Sat _ _ (_::_::_):=O.ag hT;clear hT;refine⟨_,rfl,?_⟩;intro a I;refine⟨.inr fun _=>(by exact⟨[_,_,_,_],O⟩),?_⟩;refine aE 5 (by kernel_rfl) ?_;refine eF I rfl rfl nN rfl (l7 _ _ _ q (by exact (O.p 3).rd) (hq.sat O) hlq) ?_;clear I a;rintro e w ⟨t2,ls2,rfl,hT2,hT⟩;replace O:Sat _ _ (_::_::_):=O.ag hT;clear hT;refine⟨_,rfl,?_⟩
   intro a I;refine⟨.inl rfl,?_⟩;refine rX [6,7] I ?_;clear I a;intro a I;refine ah (by kernel_rfl) ?_ _;replace I:=I.kp [2,6,7,8] rfl
   first
    | exact⟨t1,t2,ls1,ls2,I,(((((O.p 6).p 2).p 2).p 4).p 4).cw [_,_,_,_,_],(by exact hT1),(by exact hT2)⟩
 ·intro a w hI;clear O I;obtain⟨t1,t2,ls1,ls2,I,O,hT1,hT2⟩:=hI;refine rC 7 I ?_;clear I a;intro a I;refine wp_loop_ghost (fun (mm:Nat) a w=>∃(r:Nat) (ls1:List (Loc bA)),Ag a 38 [(2,.func (.func 388) #[] #[]),(6,.pointer (some ⟨b6,0,none⟩)),(7,.pointer (some ⟨t1,0,none⟩)),(8,.pointer (some ⟨t2,0,none⟩)),(16,.int .i64 ((r:Nat):Int))]∧Sat W w ([kj 355 t1 ls1,bB (ls1.map (Loc.jF 357)),kj 355 t2 ls2,bB (ls2.map (Loc.jF 357)),a6 b6 (.cells #[.slice none 0 0,.slice none 0 0] 63)])∧(r≤16)∧(gZ ls1 (oH p.d q.d r))∧mm=16-r) 16 ?_ ?_
  ·replace I:=I.kp [2,6,7,8,16] rfl;exact⟨0,ls1,I,O,(by omega),(by exact hT1.congr fun k _=>rfl),by omega⟩
  intro m a w hI;clear O I;obtain⟨r,ls1,I,O,hr,hT1,rfl⟩:=hI;refine rC 2 I ?_;clear I a;refine aJ 0 0 (aq rfl rfl) ?_ ?_
  ·intro h17;obtain⟨lA,lc,hl1⟩:=hT1.get (show r<16 by omega);obtain⟨mA,mc,hl2⟩:=hT2.get (show r<16 by omega);have hrl:=sH hlp r (by omega);have hrm:=sH hlq r (by omega);intro a I;rw[Ft]at hl1;refine rO 14 I ?_;clear I a;intro a I;refine bf [13,16] O (by kernel_rfl) ?_;replace O:=O.drew;refine rX [0,1,2,3,4] I ?_;clear I a;refine bF 5 [] rfl (fun w=>(bc rfl)) ?_;refine bF 6 [] rfl (fun w=>(iA rfl rfl l6 ji)) ?_;refine cZ 7 [8,9] rfl (by exact⟨[],O⟩) (fun w hT=>have O:=hT.sat;(an rfl lh (gR O hl1))) ?_;refine bF 10 [] rfl (fun w=>(bc rfl)) ?_;refine bF 11 [] rfl (fun w=>(iA rfl rfl l6 ji)) ?_;refine cZ 12 [] rfl (by exact⟨[],O⟩) (fun w hT=>have O:=hT.sat;(an rfl lh (gR (O.p 2) hl2))) ?_;refine bF 14 [] rfl (fun w=>(bc rfl)) ?_;intro a I;refine aE 13 (by kernel_rfl) ?_
   refine eV I rfl rfl HX rfl rfl (sO _ lA lc (cR p.d r) mA mc (cR q.d r) (sn (O.p 1) hl1) (sn (O.p 3) hl2) hrl hrm) ?_;clear I a;rintro e w ⟨A32,c32,rfl,hT⟩;replace O:=O.aM hT;clear hT;refine⟨_,rfl,?_⟩;intro a I;refine⟨.inl rfl,?_⟩;refine P1 15 [] I rfl (fun w=>(fG (I.ev rfl) (I.ev rfl) l6 ji (by omega) (by omega))) ?_;clear I a;intro a I;refine aE 16 (by kernel_rfl) ?_;refine eT (i:=r) ⟨A32,c32,eB (aP p.d r) (aP q.d r)⟩ I rfl rfl (by simp) rfl rfl lh ji (O.p 1) hl1 ?_;clear O;intro w O;refine⟨.inl rfl,?_⟩;refine ah (by kernel_rfl) ?_ _;refine rE 3 I ?_;clear I a;refine u1 2 (ad rfl rfl) ?_;intro a I;replace I:=I.kp [2,6,7,8,16] rfl;have hS2:=((O.p 2).dU (rN hl1)).drop;have hS3:=tu hl1 (l':=⟨A32,c32,eB (aP p.d r) (aP q.d r)⟩) (((hS2.p 1).p 1).p 2)
   refine⟨16-(r+1),by omega,r+1,_,I,(((((hS3.p 4).p 4).p 4).p 3).p 4).cw [_,_,_,_,_],by omega,?_,rfl⟩;exact hT1.set (D8 _ _ _).symm fun k hk hne=>DD hne
  ·intro h17;obtain rfl:r=16:=by omega
   refine uO 12 ?_;refine uF rfl (lN _ _ _ t1 ls1 (oH p.d q.d 16) O hT1 (Fz hlp hlq)) ?_;rintro e w ⟨z,rfl,hz,hT⟩;replace O:Sat _ _ (_::_::_):=O.ag hT;clear hT;refine uW (vs:=[_,_]) (cs':=[_,_]) rfl rfl aO (O.p 6) ?_;clear O;intro w O;refine uO 3 ?_;intro a I;refine fY I rfl (br (cs:=[_,_]) I rfl cS aO (by exact O.ao (xs:=[_,_]) rfl)) ?_;exact⟨z,rfl,by rw[hz,AN],n5 ((O.p 2).p 2)⟩
theorem rp (W:World)(p q:PL)(hp:p.ok W)(hq:q.ok W)(hlp:p.d.ab.length≤10000000000)(hlq:q.d.ab.length≤10000000000):Calls Tryz.prog 375 #[.agg #[.slice p.va p.d.vec.length p.vc,.slice p.ca p.d.ab.length p.cc],.agg #[.slice q.va q.d.vec.length q.vc,.slice q.ca q.d.ab.length q.cc]] W fun e w'=>∃z:PL,e=.returned (.agg #[.slice z.va z.d.vec.length z.vc,.slice z.ca z.d.ab.length z.cc])∧z.d=ke p.d q.d∧Sat W w' [cq 3 z.va z.vc z.d.vec,bp 219 z.ca z.cc z.d.ab]:=by
 refine bS Tryz.func375 [0,1] ?_;have O:=Sat.start W;refine uC 2 ?_;refine uB rfl O ?_;clear O;intro b2 w O;refine uB rfl O ?_;clear O;intro b3 w O;refine uN cY O ?_;clear O;intro b4 w O;refine uO 4 ?_;refine u1 0 (lS (cs:=[_,_]) rfl) ?_;refine u1 0 (lS (cs:=[_,_]) rfl) ?_;refine uF rfl (Bo _ p q (hp.sat O) (hq.sat O) hlp hlq) ?_;rintro e w ⟨z,rfl,hz,hT⟩;replace O:Sat _ _ (_::_::_):=O.ag hT;clear hT;refine uW (vs:=[_,_]) (cs':=[_,_]) rfl rfl aO (O.p 2) ?_;clear O;intro w O;refine uO 3 ?_;intro a I;refine fY I rfl (br (cs:=[_,_]) I rfl cS aO (by exact O.ao (xs:=[_,_]) rfl)) ?_;exact⟨z,rfl,hz,n5 ((O.p 2).p 2)⟩
theorem En (W:World)(A:Option Addr)(c:Nat)(xs:List gC)(hR:GY W A c xs)(hl:xs.length≤10000000000):Calls Tryz.prog 276 #[.slice A (xs).length c] W fun e w'=>∃q:PL,e=.returned (.agg #[.slice q.va q.d.vec.length q.vc,.slice q.ca q.d.ab.length q.cc])∧q.d=mg xs∧Sat W w' [cq 3 q.va q.vc q.d.vec,bp 219 q.ca q.cc q.d.ab]:=by
 refine bS Tryz.func276 [0] ?_;have O:=Sat.start W;refine uC 2 ?_;refine uN cY O ?_;clear O;intro b2 w O;refine uO 4 ?_;intro a I;refine o1 0 I (ar I rfl EE) ?_;clear I a;refine uB rfl O ?_;clear O;intro b7 w O;refine uO 7 ?_;refine u1 4 (ak rfl oh) ?_;intro a I;refine wp_loop_ghost (fun (mm:Nat) a w=>∃(i:Nat) (ls:List (Loc bA)),Ag a 37 [(2,.pointer (some ⟨b2,0,none⟩)),(3,.pointer (some ⟨b7,0,none⟩)),(8,.slice A (xs).length c),(9,.int .i64 ((xs.length:Nat):Int)),(10,.int .i64 ((i:Nat):Int))]∧Sat W w ([kj 355 b7 ls,bB (ls.map (Loc.jF 357)),a6 b2 (.cells #[.slice none 0 0,.slice none 0 0] 63)])∧(i≤xs.length)∧(gZ ls (lf (xs.take i)))∧mm=xs.length-i) xs.length ?_ ?_
 ·replace I:=I.kp [2,3,8,9,10] rfl;have hS1:Sat W w [kj 355 b7 (List.replicate 16 xv),bB ((List.replicate 16 xv).map (Loc.jF 357)),a6 b2 (.cells #[.slice none 0 0,.slice none 0 0] 63)]:=(sm 357 O 16).p 1;exact⟨0,_,I,hS1,(by omega),(by exact sS.congr fun r _=>rfl),by omega⟩
 intro m a w hI;clear O I;obtain⟨i,ls,I,O,hi,hT,rfl⟩:=hI;refine rC 2 I ?_;clear I a;refine aJ 0 0 (aq rfl rfl) ?_ ?_
 ·intro h11;refine uO 10 ?_;obtain⟨A_p,rfl⟩:∃q,A=some q:=(hR.sat O).au (by omega);obtain⟨d,hx⟩:∃zz_,xs[i]?=some zz_:=⟨_,List.getElem?_eq_getElem (by omega)⟩;refine u1 0 (ix rfl rfl oh gT) ?_;refine u1 0 (aG (cs:=sA d) rfl oo gT (fun j u e=>bQ (hR.sat O) (tC hx j u e))) ?_;refine uN Cl O ?_;clear O;intro b5 w O;refine uW (vs:=[_,_]) (cs':=[_,_]) rfl rfl gT O ?_;clear O;intro w O;refine uO 4 ?_;refine u1 0 (lS (cs:=[_,_]) rfl) ?_;refine uF rfl (s6 _ d.rep d.num) ?_;rintro e w ⟨rfl,hT9⟩;replace O:Sat _ _ _:=O.ag hT9;clear hT9;generalize h15:dK d.rep d.num=bb;cases bb
  ·refine uO 7 ?_;refine u1 2 (ad rfl rfl) ?_;intro a I;replace I:=I.kp [2,3,8,9,10] rfl;refine⟨xs.length-(i+1),by omega,i+1,ls,I,O.drop,by omega,?_,rfl⟩;exact hT.congr fun k hk=>by rw[oM hx,if_neg (by rw[h15];simp),List.append_nil]
  ·have hdot:=h15;unfold dK at hdot;simp only[Bool.and_eq_true,decide_eq_true_eq]at hdot;obtain⟨lA,lc,hl'⟩:=hT.get (show d.rep.toNat<16 by omega);have hlen:=vB (xs.take i) d.rep.toNat;rw[List.length_take]at hlen;replace O:Sat W w (fe 357 lA lc (lf (xs.take i) d.rep.toNat)::_):=(O.p 2).dU (rN hl');refine uO 3 ?_;intro a I;refine jo [18] (lB W [bB ((ls.map (Loc.jF 357)).eraseIdx d.rep.toNat),a6 b5 (.cells #[.int .i64 d.rep,.int .i64 d.num] 214),kj 355 b7 ls,a6 b2 (.cells #[.slice none 0 0,.slice none 0 0] 63)]) (by kernel_rfl) ?_;replace O:=O.drew;refine rX [0] I ?_;clear I a
   refine bF 1 [] rfl (fun w=>(aa rfl bM)) ?_;refine cZ 2 [3] rfl (by exact⟨[_],O⟩) (fun w hT=>have O:=hT.sat;(ld rfl)) ?_;refine bF 4 [] rfl (fun w=>(aa rfl bM)) ?_;refine cZ 5 [] rfl (by exact⟨[_],O⟩) (fun w hT=>have O:=hT.sat;(ld rfl)) ?_;refine bF 6 [] rfl (fun w=>(bc rfl)) ?_;refine bF 7 [] rfl (fun w=>(iA rfl rfl l6 ji)) ?_;refine cZ 8 [] rfl (by exact⟨[_],O⟩) (fun w hT=>have O:=hT.sat;(an rfl lh (gR (O.p 2) hl'))) ?_;refine bF 9 [] rfl (fun w=>(aa rfl bX)) ?_;refine cZ 10 [] rfl (by exact⟨[_],O⟩) (fun w hT=>have O:=hT.sat;(ld rfl)) ?_;refine bF 11 [] rfl (fun w=>(aa rfl bX)) ?_;refine cZ 12 [] rfl (by exact⟨[_],O⟩) (fun w hT=>have O:=hT.sat;(ld rfl)) ?_;intro a I;refine P1 13 [] I rfl (fun w=>(ar I rfl kP)) ?_;clear I a;refine bF 16 [] rfl (fun w=>(bc rfl)) ?_
   intro a I;refine aE 14 (by kernel_rfl) ?_;refine xP (vss:=[[_,_]]) I rfl rfl rfl bU iO rfl rfl rfl (by simp) rfl O ?_;clear I a O;intro A30 w O;intro a I;refine⟨.inr fun _=>(by exact⟨[_,_],O⟩),?_⟩;refine aE 15 (by kernel_rfl) ?_;refine eA I rfl rfl rfl rfl bU iO rfl (O.p 1) (O.rd.src bU (by simp[Value.oneCell'])) (by omega) (by omega) ?_;clear I a O;intro A31 c31 w hc31 O;intro a I;refine⟨.inr fun _=>(by exact⟨[_,_],O⟩),?_⟩;refine P1 17 [] I rfl (fun w=>(fG (I.ev rfl) (I.ev rfl) l6 ji (by omega) (by omega))) ?_;clear I a;intro a I;refine aE 18 (by kernel_rfl) ?_;refine eT (i:=d.rep.toNat) ⟨A31,c31,lf (xs.take i) d.rep.toNat++[(d.num,d.num)]⟩ I rfl rfl (by simp) rfl (by simp[Loc.v]) lh ji (O.p 4) hl' ?_;clear O;intro w O;refine⟨.inl rfl,?_⟩;refine ah (by kernel_rfl) ?_ _
   refine rE 3 I ?_;clear I a;refine u1 2 (ad rfl rfl) ?_;intro a I;replace I:=I.kp [2,3,8,9,10] rfl;have hS2:=tu hl' (l':=⟨A31,c31,lf (xs.take i) d.rep.toNat++[(d.num,d.num)]⟩) (fQ ((O.p 3).p 2) (by simp) (by simp[gP]));refine⟨xs.length-(i+1),by omega,i+1,_,I,(((hS2.p 4).p 1).p 2).cw [_,_,_],by omega,?_,rfl⟩;refine hT.set ?_ fun k hk hne=>?_
   ·rw[oM hx,if_pos ⟨h15,by omega⟩]
   ·rw[oM hx,if_neg (fun hh=>hne (by have:=hh.2;omega)),List.append_nil]
 ·intro h11;obtain rfl:i=xs.length:=by omega
  intro a I;rw[List.take_length]at hT;refine rO 12 I ?_;clear I a;refine uF rfl (lN _ _ _ b7 ls (lf xs) O hT (fun r _=>Nat.le_trans (vB xs r) (by omega))) ?_;rintro e w ⟨q,rfl,hq,hT9⟩;replace O:Sat _ _ (_::_::_):=O.ag hT9;clear hT9;refine uW (vs:=[_,_]) (cs':=[_,_]) rfl rfl aO (O.p 4) ?_;clear O;intro w O;refine uO 3 ?_;intro a I;refine fY I rfl (br (cs:=[_,_]) I rfl cS aO (by exact O.ao (xs:=[_,_]) rfl)) ?_;exact⟨q,rfl,by rw[hq,Dl],n5 ((O.p 2).p 2)⟩
def ez:List Int→List Int→List Int
 | [],m=>m
 | a::l,[]=>a::ez l []
 | a::l,b::m=>if a≤b then a::ez l (b::m) else b::ez (a::l) m
termination_by l m=>l.length+m.length
theorem iu:∀(k:Nat) (l m:List Int),l.length+m.length≤k→(ez l m).Perm (l++m)
 | _,[],m,_=>by rw[ez];exact .refl _
 | k, a :: l, [], h => by
   cases k with
   | zero=>simp at h
   | succ k=>rw[ez];exact (iu k l [] (by simp at h ⊢;omega)).cons a
 | 0,a::l,b::m,h=>by simp at h
 | k + 1, a :: l, b :: m, h => by
   simp only[List.length_cons]at h;rw[ez]
   split
   ·
    exact (iu k l (b::m) (by simp only[List.length_cons];omega)).cons a
   ·
    exact ((iu k (a::l) m (by simp only[List.length_cons];omega)).cons b).trans (List.perm_middle (l₁:=a::l) (a:=b) (l₂:=m)).symm
theorem pg:∀(k:Nat) (l m:List Int),l.length+m.length≤k→AA l→AA m→AA (ez l m)
 | _,[],m,_,_,hm=>by rw[ez];exact hm
 | k, a :: l, [], h, hl, hm => by
   cases k with
   | zero=>simp at h
   | succ k =>
     rw[ez];refine⟨fun x hx=>?_,pg k l [] (by simp at h ⊢;omega) hl.2 trivial⟩;have:=(iu _ l [] (Nat.le_refl _)).mem_iff.1 hx;exact hl.1 x (by simpa using this)
 | 0,a::l,b::m,h,_,_=>by simp at h
 | k + 1, a :: l, b :: m, h, hl, hm => by
   simp only[List.length_cons]at h;rw[ez]
   split
   ·
    rename_i hab;refine⟨fun x hx=>?_,pg k l (b::m) (by simp only[List.length_cons];omega) hl.2 hm⟩;have:=(iu _ l (b::m) (Nat.le_refl _)).mem_iff.1 hx;rcases List.mem_append.1 this with h | h
    ·
     exact hl.1 x h
    ·
     rcases List.mem_cons.1 h with rfl | h
     ·
      exact hab
     ·
      have:=hm.1 x h;omega
   ·
    rename_i hab;refine⟨fun x hx=>?_,pg k (a::l) m (by simp only[List.length_cons];omega) hl hm.2⟩;have:=(iu _ (a::l) m (Nat.le_refl _)).mem_iff.1 hx;rcases List.mem_append.1 this with h | h
    ·
     rcases List.mem_cons.1 h with rfl | h
     ·
      omega
     ·
      have:=hl.1 x h;omega
    ·
     exact hm.1 x h
theorem H7 {us vs:List Int}{i j:Nat}{u:Int}(hu:us[i]?=some u)(h:vs.length≤j∨∃v,vs[j]?=some v∧u≤v):ez (us.drop i) (vs.drop j)=u::ez (us.drop (i+1)) (vs.drop j):=by
 rw[aK hu];rcases h with h | ⟨v,hv,h⟩
 ·
  rw[List.drop_of_length_le h,ez]
 ·
  rw[aK hv,ez,if_pos h]
theorem Jj {us vs:List Int}{i j:Nat}{v:Int}(hv:vs[j]?=some v)(h:us.length≤i∨∃u,us[i]?=some u∧¬u≤v):ez (us.drop i) (vs.drop j)=v::ez (us.drop i) (vs.drop (j+1)):=by
 rw[aK hv];rcases h with h | ⟨u,hu,h⟩
 ·
  rw[List.drop_of_length_le h,ez,ez]
 ·
  rw[aK hu,ez,if_neg h]
theorem HI {us vs:List Int}{i j:Nat}(hi:us.length≤i)(hj:vs.length≤j):ez (us.drop i) (vs.drop j)=[]:=by rw[List.drop_of_length_le hi,List.drop_of_length_le hj,ez]
structure HL (us vs:List Int)(i j d:Nat):Prop where
 a1:AA (us.drop i)
 a2:AA (vs.drop j)
 fit:fits (us.drop i) (vs.drop j) d
 JI:d+us.length+j=vs.length+i
theorem GC {us vs:List Int}{i j d:Nat}{a b:Int}(h:HL us vs i j d)(ha:us[i]?=some a)(hb:vs[j]?=some b)(hab:a≤b) :
 HL us vs (i+1) j (d+1)∧fD (us.drop i) (vs.drop j) d=(if d=0 then [a] else [])++fD (us.drop (i+1)) (vs.drop j) (d+1):=by
 obtain⟨h1,h2,h3,h4⟩:=h;rw[aK ha]at h1 h3 ⊢;have h2':=h2;rw[aK hb]at h2' h3 ⊢;refine⟨⟨h1.2,h2,?_,by omega⟩,z8 hab⟩;rw[aK hb];refine CQ h3 (fun x hx=>?_) h1.1;rcases List.mem_cons.1 hx with rfl | hx
 ·
  exact hab
 ·
  have:=h2'.1 x hx;omega
theorem yv {us vs:List Int}{i j d:Nat}{b:Int}(h:HL us vs i j d)(hb:vs[j]?=some b)(hab:us.length≤i∨∃a,us[i]?=some a∧¬a≤b) :
 1≤d∧HL us vs i (j+1) (d-1)∧fD (us.drop i) (vs.drop j) d=(if d=1 then [b] else [])++fD (us.drop i) (vs.drop (j+1)) (d-1):=by
 obtain⟨h1,h2,h3,h4⟩:=h;rw[aK hb]at h2 h3 ⊢
 have hgt:∀x∈us.drop i,b<x:=by
  rcases hab with h | ⟨a,ha,h⟩
  ·
   rw[List.drop_of_length_le h];intro x hx;cases hx
  ·
   rw[aK ha]at h1 ⊢;intro x hx;rcases List.mem_cons.1 hx with rfl | hx
   ·
    omega
   ·
    have:=h1.1 x hx;omega
 obtain⟨hd,hf⟩:=vi h3 hgt h2.1;refine⟨hd,⟨h1,h2.2,hf,by omega⟩,?_⟩;rcases hab with h | ⟨a,ha,h⟩
 ·
  rw[List.drop_of_length_le h,tV]
 ·
  rw[aK ha,w3 h]
theorem Er {raw:List bA}{us vs:List Int}(hi:AA us)(ho:AA vs)(pi:us.Perm ((fq raw).map Prod.fst))(po:vs.Perm ((fq raw).map fun r=>r.2+1)):HL us vs 0 0 0:=by
 have hc:=fun n=>uf (l:=fq raw) (fun r hr=>(oF r hr).2.1) n
 refine⟨hi,ho,fun n=>?_,by rw[pi.length_eq,po.length_eq];simp⟩;rw[List.drop_zero,List.drop_zero,mE po,mE pi];have:=(hc n).1;omega
def bY (r:Int)(a b:Bool):Bool:=(decide (r=1) && a && b) || (decide (r=2) && a && !b)
def cz (i:Nat):Bool:=decide (i % 2=1)
theorem rK (i:Nat):cz (i+1)=!cz i:=by
 unfold cz
 by_cases h:i % 2=1
 ·
  rw[decide_eq_true h,decide_eq_false (by omega)];rfl
 ·
  rw[decide_eq_false h,decide_eq_true (by omega)];rfl
theorem Jy {f:Bool→Bool→Bool}{us vs:List Int}{i j:Nat}{u:Int}{now:Bool}(hu:us[i]?=some u)(h:vs.length≤j∨∃v,vs[j]?=some v∧u<v):comb f (us.drop i) (vs.drop j) (cz i) (cz j) now=(if f (cz (i+1)) (cz j)=now then [] else [u])++comb f (us.drop (i+1)) (vs.drop j) (cz (i+1)) (cz j) (f (cz (i+1)) (cz j)):=by
 rw[aK hu,rK];rcases h with h | ⟨v,hv,h⟩
 ·
  rw[List.drop_of_length_le h,comb]
 ·
  rw[aK hv,comb,if_pos h]
theorem Kc {f:Bool→Bool→Bool}{us vs:List Int}{i j:Nat}{v:Int}{now:Bool}(hv:vs[j]?=some v)(h:us.length≤i∨∃u,us[i]?=some u∧v<u):comb f (us.drop i) (vs.drop j) (cz i) (cz j) now=(if f (cz i) (cz (j+1))=now then [] else [v])++comb f (us.drop i) (vs.drop (j+1)) (cz i) (cz (j+1)) (f (cz i) (cz (j+1))):=by
 rw[aK hv,rK];rcases h with h | ⟨u,hu,h⟩
 ·
  rw[List.drop_of_length_le h,comb]
 ·
  rw[aK hu,comb,if_neg (by omega),if_pos h]
theorem IA {f:Bool→Bool→Bool}{us vs:List Int}{i j:Nat}{u:Int}{now:Bool}(hu:us[i]?=some u)(hv:vs[j]?=some u):comb f (us.drop i) (vs.drop j) (cz i) (cz j) now=(if f (cz (i+1)) (cz (j+1))=now then [] else [u])++comb f (us.drop (i+1)) (vs.drop (j+1)) (cz (i+1)) (cz (j+1)) (f (cz (i+1)) (cz (j+1))):=by
 rw[aK hu,aK hv,rK,rK,comb,if_neg (by omega),if_neg (by omega)]
theorem HF {f:Bool→Bool→Bool}{us vs:List Int}{i j:Nat}{x y now:Bool}(hi:us.length≤i)(hj:vs.length≤j):comb f (us.drop i) (vs.drop j) x y now=[]:=by rw[List.drop_of_length_le hi,List.drop_of_length_le hj,comb]
theorem Hh {W:World}{A:Option Addr}{n c sz:Nat}{cs:List Value}(h:Rd W sz (.slice A n c) n cs):n≤c:=by
 obtain⟨_,_,h1,h2⟩:=h.form
 injection h1 with _ _ h3
 omega
theorem FH {w:World}{A:Option Addr}{n c m:Nat}{cs:List Value}(h:Rd w 1 (.slice A n c) n cs)(hm:m≤n):Rd w 1 (.slice (jW A c 1 m) (n-m) (c-m)) (n-m) (cs.drop m):=by
 have:=Rd.G8 h m hm;rwa[Nat.mul_one]at this
theorem s5 (W:World)(A:Option Addr)(n c:Nat)(xs:List Int)(hX:Rd W 1 (.slice A n c) n (xs.map (Value.int .i64)))(hl:n≤1000000000000)(ih:∀(W:World) (A:Option Addr) (m c:Nat) (xs:List Int),m<n→Rd W 1 (.slice A m c) m (xs.map (Value.int .i64))→Calls Tryz.prog 296 #[.slice A m c] W fun e w'=>∃A' c' ys,e=.returned (.slice A' ys.length c')∧ys.Perm xs∧AA ys∧Sat W w' [cq 3 A' c' ys]):Calls Tryz.prog 296 #[.slice A n c] W fun e w'=>∃A' c' ys,e=.returned (.slice A' ys.length c')∧ys.Perm xs∧AA ys∧Sat W w' [cq 3 A' c' ys]:=by
 refine bS Tryz.func296 [0] ?_;have O:=Sat.start W;have hnc:=Hh hX;have hxl:xs.length=n:=by have:=hX.len;simpa using this
 refine uC 9 ?_;refine u1 0 (ak rfl ax) ?_;refine aJ 0 0 (aq rfl rfl) ?_ ?_
 ·intro h10;refine uO 5 ?_;intro a I;refine Gj I rfl ax iU O ?_;clear I a O;intro A11 w O;refine uO 1 ?_;intro a I;refine dq I rfl rfl rfl ax iU rfl O ((hX.sat O).src ax (ze xs)) (by omega) (by omega) ?_;clear I a O;intro A13 c13 w hc13 O;refine uO 5 ?_;refine aY ?_
  have e1:AA xs:=by
   rcases xs with _ | ⟨a,_ | ⟨b,l⟩⟩
   ·
    exact trivial
   ·
    exact⟨fun x hx=>(by cases hx),trivial⟩
   ·
    simp at hxl;omega
  refine⟨_,_,xs,p3 (by omega),.refl _,e1,fQ (gy O) (by omega) (by simp)⟩
 ·intro h10;refine uO 9 ?_;refine u1 0 (ak rfl ax) ?_;refine u1 0 (kH rfl rfl (by omega) (by omega) (by omega)) ?_;refine u1 0 (aw (mz rfl rfl ax eP (by omega) (by omega)) (show _=Value.slice (jW A c 1 0) (n / 2) c from rfl)) ?_;refine uF rfl (ih _ _ _ _ (xs.take (n / 2)) (by omega) (by rw[List.map_take];exact wR (hX.sat O) (by omega))) ?_;rintro e w ⟨A1,c1,us,rfl,hp1,ha1,hT⟩;have hl1:=hp1.length_eq;replace O:=O.aM hT;clear hT;refine uO 7 ?_;refine u1 0 (ak rfl ax) ?_;refine u1 0 (kH rfl rfl (by omega) (by omega) (by omega)) ?_;refine u1 0 (aw (xi rfl rfl ax eP (by omega) (by omega)) (show _=Value.slice (jW A c 1 (n / 2)) (n-n / 2) (c-n / 2) from rfl)) ?_;refine uF rfl (ih _ _ _ _ (xs.drop (n / 2)) (by omega) (by rw[List.map_drop];exact FH (hX.sat O) (by omega))) ?_
  rintro e w ⟨A2,c2,vs,rfl,hp2,ha2,hT⟩;have hl2:=hp2.length_eq;replace O:=O.aM hT;clear hT;intro a I;rw[List.length_take]at hl1;rw[List.length_drop]at hl2;refine rO 6 I ?_;clear I a;refine u1 0 (ak rfl ax) ?_;intro a I;refine JG (m:=0) I rfl rfl rfl ax iU rfl (by omega) (by omega) (by omega) O ?_;clear I a O;intro b28 w O;refine uO 3 ?_;intro a I;replace I:=I.kp [2,3,4,5] rfl;refine rC 8 I ?_;clear I a;intro a I
  refine wp_loop_ghost (fun (mm:Nat) a w=>∃(i j:Nat) (out:List Int) (Ao:Option Addr) (co:Nat),Ag a 79 [(3,.slice A1 (us).length c1),(4,.slice A2 (vs).length c2),(5,.slice Ao (out).length co),(6,.int .i64 ((i:Nat):Int)),(7,.int .i64 ((j:Nat):Int))]∧Sat W w ([cq 3 Ao co out,cq 3 A2 c2 vs,cq 3 A1 c1 us])∧(i≤us.length)∧(j≤vs.length)∧(out.length=i+j)∧(out++ez (us.drop i) (vs.drop j)=ez us vs)∧mm=us.length+vs.length-(i+j)) (us.length+vs.length) ?_ ?_
  ·replace I:=I.kp [3,4,5,6,7] rfl;exact⟨0,0,[],(some ⟨b28,0,none⟩),n,I,O,(by omega),(by omega),(by rfl),(by rfl),by omega⟩
  intro m a w hI;clear O I;obtain⟨i,j,out,Ao,co,I,O,hi,hj,hol,ho,rfl⟩:=hI;refine rC 5 I ?_;clear I a;refine u1 0 (ak rfl ax) ?_;refine aJ 0 0 (aq rfl rfl) ?_ ?_
  ·intro h32;refine uO 13 ?_;intro a I;refine cF (fun w'=>Sat _ w' _) (by kernel_rfl) (by kernel_rfl) O.drew ?_;refine rQ 2 I ?_;clear I a;refine bj 0 (fun w O=>(ak rfl ax)) ?_;intro a I;refine K.sE I rfl rfl rfl (fun w O=>(aU (I.ev rfl) (I.ev rfl))) ?_ ?_
   ·clear I a;intro h42;refine uQ 17 ?_;intro a I;refine wpQuiet_nil ?_;clear O;intro w O;refine rE 7 I ?_;clear I a;obtain⟨A1_p,rfl⟩:∃q,A1=some q:=(O.p 2).rd.au (by omega);obtain⟨u,hu⟩:∃zz_,us[i]?=some zz_:=⟨_,List.getElem?_eq_getElem (by omega)⟩;refine u1 0 (ix rfl rfl ax eP) ?_;refine u1 0 (an rfl dA (fP (O.p 2).rd (bu hu))) ?_;intro a I;refine nZ I rfl rfl ax iU rfl rfl rfl (by simp[Value.oneCell']) O ?_;clear I a O;intro A65 w O;intro a I;refine dq I rfl rfl rfl ax iU rfl (O.p 1) (O.rd.src ax (by simp[Value.oneCell'])) (by omega) (by omega) ?_;clear I a O;intro A66 c66 w hc66 O;refine uO 5 ?_;refine u1 3 (ad rfl rfl) ?_;intro a I;replace I:=I.kp [3,4,5,6,7] rfl;rw[H7 hu (.inl (by omega)),List.append_cons]at ho;have el:out.length+1=(out++[u]).length:=by simp
    rw[el]at I;exact⟨us.length+vs.length-(i+1+j),by omega,i+1,j,out++[u],A66,c66,I,sJ (fQ (((O.p 3).p 3).p 2) el (by simp)),by omega,by omega,by simp;omega,ho,rfl⟩
   ·clear I a;intro h42;refine uQ 3 ?_;refine bj 0 (fun w O=>(ak rfl ax)) ?_;intro a I;refine K.oU I (aT I rfl rfl rfl) rfl rfl (fun w O=>(aq (I.ev rfl) (I.ev rfl))) ?_ ?_
    ·clear I a;intro h47;refine uQ 3 ?_;obtain⟨A1_p,rfl⟩:∃q,A1=some q:=(O.p 2).rd.au (by omega);obtain⟨u,hu⟩:∃zz_,us[i]?=some zz_:=⟨_,List.getElem?_eq_getElem (by omega)⟩;refine bj 0 (fun w O=>(ix rfl rfl ax eP)) ?_;refine bj 2 (fun w O=>(an rfl dA (fP (O.p 2).rd (bu hu)))) ?_;obtain⟨A2_p,rfl⟩:∃q,A2=some q:=(O.p 1).rd.au (by omega);obtain⟨v,hv⟩:∃zz_,vs[j]?=some zz_:=⟨_,List.getElem?_eq_getElem (by omega)⟩;refine bj 0 (fun w O=>(ix rfl rfl ax eP)) ?_;refine bj 0 (fun w O=>(an rfl dA (fP (O.p 1).rd (bu hv)))) ?_;intro a I;refine K.oU I (aT I rfl rfl rfl) rfl rfl (fun w O=>(dD (I.ev rfl) (I.ev rfl))) ?_ ?_
     ·clear I a;intro h57;refine uQ 2 ?_;intro a I;refine wpQuiet_nil ?_;clear O;intro w O;refine rE 7 I ?_;clear I a;refine u1 0 (ix rfl rfl ax eP) ?_;refine u1 0 (an rfl dA (fP (O.p 2).rd (bu hu))) ?_;intro a I;refine nZ I rfl rfl ax iU rfl rfl rfl (by simp[Value.oneCell']) O ?_;clear I a O;intro A65 w O;intro a I;refine dq I rfl rfl rfl ax iU rfl (O.p 1) (O.rd.src ax (by simp[Value.oneCell'])) (by omega) (by omega) ?_;clear I a O;intro A66 c66 w hc66 O;refine uO 5 ?_;refine u1 3 (ad rfl rfl) ?_;intro a I;replace I:=I.kp [3,4,5,6,7] rfl;rw[H7 hu (.inr ⟨v,hv,h57⟩),List.append_cons]at ho;have el:out.length+1=(out++[u]).length:=by simp
      rw[el]at I;exact⟨us.length+vs.length-(i+1+j),by omega,i+1,j,out++[u],A66,c66,I,sJ (fQ (((O.p 3).p 3).p 2) el (by simp)),by omega,by omega,by simp;omega,ho,rfl⟩
     ·clear I a;intro h57;refine uQ 2 ?_;intro a I;refine wpQuiet_nil ?_;clear O;intro w O;refine rE 7 I ?_;clear I a;refine u1 0 (ix rfl rfl ax eP) ?_;refine u1 0 (an rfl dA (fP (O.p 1).rd (bu hv))) ?_;intro a I;refine nZ I rfl rfl ax iU rfl rfl rfl (by simp[Value.oneCell']) O ?_;clear I a O;intro A74 w O;intro a I;refine dq I rfl rfl rfl ax iU rfl (O.p 1) (O.rd.src ax (by simp[Value.oneCell'])) (by omega) (by omega) ?_;clear I a O;intro A75 c75 w hc75 O;refine uO 5 ?_;refine u1 3 (ad rfl rfl) ?_;intro a I;replace I:=I.kp [3,4,5,6,7] rfl;rw[Jj hv (.inr ⟨u,hu,h57⟩),List.append_cons]at ho;have el:out.length+1=(out++[v]).length:=by simp
      rw[el]at I;exact⟨us.length+vs.length-(i+(j+1)),by omega,i,j+1,out++[v],A75,c75,I,sJ (fQ (((O.p 3).p 3).p 2) el (by simp)),by omega,by omega,by simp;omega,ho,rfl⟩
    ·clear I a;intro h47;intro a I;contradiction
  ·intro h32;refine uO 3 ?_;refine u1 0 (ak rfl ax) ?_;refine aJ 0 0 (aq rfl rfl) ?_ ?_
   ·intro h37;refine uO 8 ?_;intro a I;refine cF (fun w'=>Sat _ w' _) (by kernel_rfl) (by kernel_rfl) O.drew ?_;refine rQ 2 I ?_;clear I a;refine bj 0 (fun w O=>(ak rfl ax)) ?_;intro a I;refine K.sE I rfl rfl rfl (fun w O=>(aU (I.ev rfl) (I.ev rfl))) ?_ ?_
    ·clear I a;intro h42;intro a I;exfalso;omega
    ·clear I a;intro h42;refine uQ 3 ?_;refine bj 0 (fun w O=>(ak rfl ax)) ?_;intro a I;refine K.oU I (aT I rfl rfl rfl) rfl rfl (fun w O=>(aq (I.ev rfl) (I.ev rfl))) ?_ ?_
     ·clear I a;intro h47;intro a I;contradiction
     ·clear I a;intro h47;refine uQ 12 ?_;intro a I;refine wpQuiet_nil ?_;clear O;intro w O;refine rE 7 I ?_;clear I a;obtain⟨A2_p,rfl⟩:∃q,A2=some q:=(O.p 1).rd.au (by omega);obtain⟨v,hv⟩:∃zz_,vs[j]?=some zz_:=⟨_,List.getElem?_eq_getElem (by omega)⟩;refine u1 0 (ix rfl rfl ax eP) ?_;refine u1 0 (an rfl dA (fP (O.p 1).rd (bu hv))) ?_;intro a I;refine nZ I rfl rfl ax iU rfl rfl rfl (by simp[Value.oneCell']) O ?_;clear I a O;intro A74 w O;intro a I;refine dq I rfl rfl rfl ax iU rfl (O.p 1) (O.rd.src ax (by simp[Value.oneCell'])) (by omega) (by omega) ?_;clear I a O;intro A75 c75 w hc75 O;refine uO 5 ?_;refine u1 3 (ad rfl rfl) ?_;intro a I;replace I:=I.kp [3,4,5,6,7] rfl;rw[Jj hv (.inl (by omega)),List.append_cons]at ho;have el:out.length+1=(out++[v]).length:=by simp
      rw[el]at I;exact⟨us.length+vs.length-(i+(j+1)),by omega,i,j+1,out++[v],A75,c75,I,sJ (fQ (((O.p 3).p 3).p 2) el (by simp)),by omega,by omega,by simp;omega,ho,rfl⟩
   ·intro h37;refine uO 16 ?_;refine aY ?_;rw[HI (by omega) (by omega),List.append_nil]at ho;subst ho;refine⟨_,_,_,rfl,?_,pg _ us vs (Nat.le_refl _) ha1 ha2,gy O⟩;refine (iu _ us vs (Nat.le_refl _)).trans ((hp1.append hp2).trans ?_);rw[List.take_append_drop]
theorem nB:∀(k:Nat) (W:World) (A:Option Addr) (n c:Nat) (xs:List Int),n≤k→n≤1000000000000→Rd W 1 (.slice A n c) n (xs.map (Value.int .i64))→Calls Tryz.prog 296 #[.slice A n c] W fun e w'=>∃A' c' ys,e=.returned (.slice A' ys.length c')∧ys.Perm xs∧AA ys∧Sat W w' [cq 3 A' c' ys]
 | 0,W,A,n,c,xs,hk,hl,hX=>s5 W A n c xs hX hl fun _ _ _ _ _ h _=>absurd h (by omega)
 | k+1,W,A,n,c,xs,hk,hl,hX=>s5 W A n c xs hX hl fun W A m c xs h hX=>nB k W A m c xs (by omega) (by omega) hX
def Loc.fh (e:Nat)(l:Loc Int):As:=cq e l.a l.c l.xs
abbrev dE {α:Type}(ty t:Nat)(ls:List (Loc α)):As:=a6 t (.cells (ls.map Loc.v).toArray ty (0,0))
theorem i7 {α:Type}{f:Loc α→As}{ls:List (Loc α)}{i:Nat}{l:Loc α}(h:ls[i]?=some l):(ls.map f)[i]?=some (f l):=by rw[List.getElem?_map,h];rfl
theorem gq {α:Type}{W w:World}{L:List As}{ty t i k:Nat}{ls:List (Loc α)}{l:Loc α}(s:Sat W w (dE ty t ls::L))(h:ls[i]?=some l)(hk:k=i:=by simp):w.cell? ⟨t,k,none⟩=some (.slice l.a l.xs.length l.c):=by
 subst hk;exact s.pJ (by simp[h,Loc.v])
theorem lg {α:Type}{W w:World}{L:List As}{ty t:Nat}{ls:List (Loc α)}(s:Sat W w (dE ty t ls::L)):∀j u,(ls.map Loc.v)[j]?=some u→w.cell? ((⟨t,0,none⟩:Addr).add j)=some u:=fun j u h=>by
 rw[add_lit,Nat.zero_add];exact s.pJ (by simpa using h)
theorem jQ {α:Type}{W w:World}{L:List As}{f:Loc α→As}{i:Nat}{ls:List (Loc α)}{l l':Loc α}(h:ls[i]?=some l)(s:Sat W w (f l'::bB ((ls.map f).eraseIdx i)::L)):Sat W w (bB ((ls.set i l').map f)::L):=by
 rw[List.map_set];exact Sat.u6 (by rw[List.length_map];exact (List.getElem?_eq_some_iff.1 h).1) s
theorem kD {W w:World}{L:List As}{e i:Nat}{ls:List (Loc Int)}{l:Loc Int}(s:Sat W w (bB (ls.map (Loc.fh e))::L))(h:ls[i]?=some l):kY w l.a l.c l.xs:=(s.dU (i7 h)).rd
theorem lq {α:Type}{W w:World}{L:List As}(f:Loc α→As)(s:Sat W w L)(h0:∀L',Sat W w L'→Sat W w (f ⟨none,0,[]⟩::L')):∀n,Sat W w (bB ((List.replicate n (⟨none,0,[]⟩:Loc α)).map f)::L)
 | 0=>s.gX
 | n+1=>(h0 _ (lq f s h0 n)).pf
def dL {α:Type}(ls:List (Loc α))(f:Nat→List α):Prop:=ls.length=16∧∀r l,ls[r]?=some l→l.xs=f r
theorem dL.get {α:Type}{ls:List (Loc α)}{f:Nat→List α}(h:dL ls f){r:Nat}(hr:r<16):∃A c,ls[r]?=some ⟨A,c,f r⟩:=by
 have hl:r<ls.length:=by rw[h.1];exact hr
 have:=h.2 r ls[r] (List.getElem?_eq_getElem hl);refine⟨ls[r].a,ls[r].c,?_⟩;rw[List.getElem?_eq_getElem hl,←this]
theorem dL.set {α:Type}{ls:List (Loc α)}{f g:Nat→List α}(h:dL ls f){r:Nat}{l:Loc α}(hl:l.xs=g r)(hg:∀k,k<16→k≠r→g k=f k):dL (ls.set r l) g:=by
 refine⟨by rw[List.length_set];exact h.1,fun k x hx=>?_⟩;have hk:k<16:=by have:=(List.getElem?_eq_some_iff.1 hx).1;rw[List.length_set,h.1]at this;exact this
 by_cases e:r=k
 ·
  subst e;rw[List.getElem?_set_self (by rw[h.1];exact hk)]at hx;cases hx;exact hl
 ·
  rw[List.getElem?_set_ne e]at hx;rw[h.2 k x hx,hg k hk (Ne.symm e)]
theorem dL.congr {α:Type}{ls:List (Loc α)}{f g:Nat→List α}(h:dL ls f)(hg:∀k,k<16→f k=g k):dL ls g:=⟨h.1,fun r l hl=>by
 have hr:r<16:=by have:=(List.getElem?_eq_some_iff.1 hl).1;rw[h.1]at this;exact this
 rw[h.2 r l hl,hg r hr]⟩
theorem kx {α:Type}:dL (List.replicate 16 (⟨none,0,[]⟩:Loc α)) (fun _=>[]):=⟨by simp,fun r l h=>by
 have:=List.mem_of_getElem? h;rw[List.eq_of_mem_replicate this]⟩
section
variable {α:Type} {P:Program} {ops:Array Oper} {a:Act} {n:Nat} {E:Env} {w W:World} {rest:List Oper} {Q:Exit→Act→World→Prop} {L:List As} {t ty:TypeId} {ps:String} {af:Array Edge} {x y:Operand} {ds:List Deferred}
theorem Jx {tb i t':Nat}{p:Addr}{v:Value}{ls:List (Loc α)}{l:Loc α}(l':Loc α)(I:Ag a n E ds)(hx:fE E x=some (.pointer (some p)))(hp:p=⟨tb,i,none⟩)(hy:fE E y=some v)(hv:v=l'.v)(ht:flat P t=true)(h1:(P.info? t).map (·.size)=some 1)
 (s:Sat W w (dE t' tb ls::L)) (hi:ls[i]?=some l) (k:∀w',Sat W w' (dE t' tb (ls.set i l')::L)→wpList P ops Q rest a w'):wpList P ops Q (⟨none,.store t x y,ty,ps,af,none⟩::rest) a w:=by
 subst hp hv;refine kK I hx hy ht h1 rfl s (u:=l.v) (by rw[mj];simp[hi]) fun w' h=>k w' ?_;rw[dE,List.map_set];simpa using h
theorem Hc {q:Nat}{K:Act→World→Prop}{tb i t':Nat}{p:Addr}{v:Value}{ls:List (Loc α)}{l:Loc α}(l':Loc α)(I:Ag a n E ds)(hi':ops[q]?=some ⟨none,.store t x y,ty,ps,af,none⟩)(hx:fE E x=some (.pointer (some p)))(hp:p=⟨tb,i,none⟩)(hy:fE E y=some v)(hv:v=l'.v)(ht:flat P t=true)(h1:(P.info? t).map (·.size)=some 1)
 (s:Sat W w (dE t' tb ls::L)) (hi:ls[i]?=some l) (k:∀w',Sat W w' (dE t' tb (ls.set i l')::L)→K a w'):wpOp P ops Q q K a w:=by
 subst hp hv;refine eW I hi' hx hy ht h1 rfl s (u:=l.v) (by rw[mj];simp[hi]) fun w' h=>k w' ?_;rw[dE,List.map_set];simpa using h
theorem Gp {tb t':Nat}{cs:List Value}{ls:List (Loc α)}(I:Ag a n E ds)(hx:fE E x=some (.pointer (some ⟨tb,0,none⟩)))(hy:fE E y=some (.agg (ls.map Loc.v).toArray))(h1:(P.info? t).map (·.size)=some 16)(hl:ls.length=16)(hc:cs.length=16)
 (s:Sat W w (a6 tb (.cells cs.toArray t' (0,0))::L)) (k:∀w',Sat W w' (dE t' tb ls::L)→wpList P ops Q rest a w'):wpList P ops Q (⟨none,.store t x y,ty,ps,af,none⟩::rest) a w:=by
 refine HD (vs:=ls.map Loc.v) I hx hy (by rw[h1,List.length_map,hl]) (fun v hv=>?_) s (by rw[List.length_map];omega) fun w' h=>k w' ?_
 ·
  obtain⟨l,_,rfl⟩:=List.mem_map.1 hv;rfl
 ·
  have e:cs.take 0++ls.map Loc.v++cs.drop (0+(ls.map Loc.v).length)=ls.map Loc.v:=by
   rw[List.take_zero,List.nil_append,List.drop_of_length_le (by rw[List.length_map];omega),List.append_nil]
  rw[e]at h;exact h
end
def wK (T:List aI)(r k:Nat):List Int:=if k<r then bI (av (fU T k)) else []
theorem Dr (T:List aI)(r:Nat):wK T (r+1) r=bI (av (fU T r)):=if_pos (Nat.lt_succ_self r)
theorem D9 {T:List aI}{r k:Nat}(h:k≠r):wK T (r+1) k=wK T r k:=by
 unfold wK
 by_cases h1:k<r
 ·
  rw[if_pos h1,if_pos (by omega)]
 ·
  rw[if_neg h1,if_neg (by omega)]
def pD (ps:List PL)(i:Nat):aI:=match ps[i]? with | some p=>p.d | none=>⟨[],[]⟩
theorem B1 {ps:List PL}{i:Nat}{p:PL}(h:ps[i]?=some p):pD ps i=p.d:=by unfold pD;rw[h]
theorem w7 {l:List bA}{q:Nat}{x:bA}(h:l[q]?=some x):(bI l)[2 * q]?=some x.1∧(bI l)[2 * q+1]?=some (x.2+1):=by
 induction l generalizing q with
 | nil=>simp at h
 | cons y l ih =>
   cases q with
   | zero=>simp at h;subst h;exact⟨rfl,rfl⟩
   | succ q =>
     have:=ih (q:=q) (by simpa using h);rw[show 2 * (q+1)=2 * q+1+1 from by omega];exact this
theorem xk {g:List bA}{x:bA}(h:can (g++[x])):aX (g++[x])=if x.1=1 then (x.2,[]) else ((aX g).1,(aX g).2++[x]):=by
 cases g with
 | nil=>rw[List.nil_append,fV];split<;>rfl
 | cons y t =>
   have h1:=h.2.2.2.1 x (by simp);have h2:=h.1;have h3:=h.2.1;rw[List.cons_append,fV,fV,if_neg (by omega:¬x.1=1)]
   split<;>rfl
def j9 (f:Nat→Int)(r:Nat)(x:Int):List Value:=((List.range r).map f++(x::List.replicate (15-r) 0)).map (Value.int .i64)
theorem yL {f:Nat→Int}{r:Nat}(hr:r<16):((List.range r).map f++List.replicate (16-r) 0).map (Value.int .i64)=j9 f r 0:=by
 unfold j9;rw[show 16-r=(15-r)+1 from by omega,List.replicate_succ]
theorem AL {f:Nat→Int}{r:Nat}(x y:Int):(j9 f r x).set r (.int .i64 y)=j9 f r y:=by
 unfold j9;rw[show Value.int .i64 y=Value.int .i64 y from rfl,←List.map_set]
 congr 1
 rw[List.set_append_right _ _ (by simp)];simp
theorem Bw {f:Nat→Int}{r:Nat}(x:Int):(j9 f r x)[r]?=some (.int .i64 x):=by
 unfold j9;rw[List.getElem?_map,List.getElem?_append_right (by simp)];simp
theorem AZ {f:Nat→Int}{r:Nat}(hr:r<16):j9 f r (f r)=((List.range (r+1)).map f++List.replicate (16-(r+1)) 0).map (Value.int .i64):=by
 unfold j9
 congr 1
 rw[List.range_succ,List.map_append,List.append_assoc,show 16-(r+1)=15-r from by omega]
 rfl
theorem rF {f:Nat→List bA}{B:Nat}(hb:∀r,r<16→(f r).length≤B):∀r,r≤16→((List.range r).flatMap (aR f)).length≤r * B
 | 0,_=>by simp
 | r + 1, h => by
   have h1:=rF hb r (by omega);have h2:=hb r (by omega);have h4:=lU (f r);rw[mO,rS,List.length_append,List.length_map,Nat.add_mul];omega
theorem yQ {l:List bA}(h:can l)(q:Nat):can (l.take q):=wa (m:=l.drop q) (by rw[List.take_append_drop];exact h)
theorem jM {α:Type}{W w:World}{L:List As}{ty t i k c:Nat}{A:Option Addr}{xs:List α}{ls:List (Loc α)}(s:Sat W w (dE ty t ls::L))(h:ls[i]?=some ⟨A,c,xs⟩)(hk:k=i:=by simp):w.cell? ⟨t,k,none⟩=some (.slice A xs.length c):=gq s h hk
theorem Ds (f:Nat→List bA){r q:Nat}{x:bA}(hx:(f r)[q]?=some x):c4 ((f r).take (q+1))=c4 ((f r).take q)+(x.2-x.1+1):=by rw[aF hx,qE];simp[c4]
theorem AP {l:List Int}(h:∀x∈l,0≤x):0≤l.sum∧(l.sum=0→∀x∈l,x=0):=by
 induction l with
 | nil=>simp
 | cons a l ih =>
   obtain⟨h1,h2⟩:=ih fun x hx=>h x (by simp[hx])
   have ha:=h a (by simp);rw[List.sum_cons];refine⟨by omega,fun h0 x hx=>?_⟩;rcases List.mem_cons.1 hx with rfl | hx
   ·
    omega
   ·
    exact h2 (by omega) x hx
theorem sI (p:aI):eO p=true↔∀r,r<16→aP p r=[]:=by
 unfold eO BT;rw[decide_eq_true_eq]
 have hn:∀x∈(List.range 16).map fun r=>c4 (aP p r),0≤x:=fun x hx=>by
  obtain⟨r,_,rfl⟩:=List.mem_map.1 hx;exact (je (bG p r)).1
 constructor
 ·
  intro h r hr;exact (je (bG p r)).2.1 ((AP hn).2 h _ (List.mem_map.2 ⟨r,List.mem_range.2 hr,rfl⟩))
 ·
  intro h;have:(List.range 16).map (fun r=>c4 (aP p r))=(List.range 16).map fun _=>0:=List.map_congr_left fun r hr=>by rw[h r (List.mem_range.1 hr)];rfl
  rw[this];decide
theorem xU (a b:aI):eO (ke a b)=ck a b:=by
 rw[Bool.eq_iff_iff,sI,Ad,tZ];constructor
 ·
  intro h r hr;rw[←kI a b hr];exact h r hr
 ·
  intro h r hr;rw[kI a b hr];exact h r hr
theorem vo (rule:Int):bY rule false false=false:=by simp[bY]
theorem Bt:bY 2=fun a b=>a && !b:=by funext a b;simp[bY]
theorem zg (W:World)(A:Option Addr)(n c:Nat)(B:Option Addr)(m d:Nat)(raw:List bA)(hX:Rd W 1 (.slice A n c) n ((raw.map Prod.fst).map (Value.int .i64)))(hY:Rd W 1 (.slice B m d) m ((raw.map Prod.snd).map (Value.int .i64)))(hn:n=raw.length)(hm:m=raw.length)(hl:raw.length≤100000000000):Calls Tryz.prog 289 #[.slice A n c,.slice B m d] W fun e w'=>∃A' c',e=.returned (.slice A' (bI (av raw)).length c')∧Sat W w' [cq 3 A' c' (bI (av raw))]:=by
 refine bS Tryz.func289 [0,1] ?_;have O:=Sat.start W;intro a I;subst hn hm;refine rC 18 I ?_;clear I a;intro a I;refine wp_loop_ghost (fun (mm:Nat) a w=>∃(i:Nat) (ins outs:List Int) (Ai Ao:Option Addr) (ci co:Nat),Ag a 98 [(0,.slice A (raw).length c),(1,.slice B (raw).length d),(5,.slice Ai (ins).length ci),(6,.slice Ao (outs).length co),(7,.int .i64 ((i:Nat):Int))]∧Sat W w ([cq 3 Ai ci ins,cq 3 Ao co outs])∧(i≤raw.length)∧(ins=((fq (raw.take i)).map Prod.fst))∧(outs=((fq (raw.take i)).map fun r=>r.2+1))∧mm=raw.length-i) raw.length ?_ ?_
 ·replace I:=I.kp [0,1,5,6,7] rfl;exact⟨0,[],[],none,none,0,0,I,((O.ba 3 1).ba 3 1),(by omega),(by rfl),(by rfl),by omega⟩
 intro m a w hI;clear O I;obtain⟨i,ins,outs,Ai,Ao,ci,co,I,O,hi,h1,h2,rfl⟩:=hI;refine rC 5 I ?_;clear I a;refine u1 0 (ak rfl ax) ?_;refine aJ 0 0 (aq rfl rfl) ?_ ?_
 ·intro h17;refine uO 8 ?_;intro a I;refine cF (fun w'=>Sat _ w' _) (by kernel_rfl) (by kernel_rfl) O.drew ?_;refine rQ 2 I ?_;clear I a;obtain⟨A_p,rfl⟩:∃q,A=some q:=(hX.sat O).au (by omega);obtain⟨r,hr⟩:∃zz_,raw[i]?=some zz_:=⟨_,List.getElem?_eq_getElem (by omega)⟩;have hr1:(raw.map Prod.fst)[i]?=some r.1:=by rw[List.getElem?_map,hr];rfl
  have hr2:(raw.map Prod.snd)[i]?=some r.2:=by rw[List.getElem?_map,hr];rfl
  have hcl:=iZ (raw.take i);intro a I;rw[List.length_take]at hcl;have hl1:ins.length≤100000000000:=by rw[h1,List.length_map];omega
  have hl2:outs.length≤100000000000:=by rw[h2,List.length_map];omega
  refine Q1 0 I (fun w O=>(ib (I.ev rfl) (I.ev rfl) ax eP (by omega) (by omega))) ?_;clear I a;refine bj 0 (fun w O=>(an rfl dA (fP (hX.sat O) (bu hr1)))) ?_;refine bj 2 (fun w O=>(uL rfl rfl)) ?_;obtain⟨B_p,rfl⟩:∃q,B=some q:=(hY.sat O).au (by omega);refine bj 0 (fun w O=>(ix rfl rfl ax eP)) ?_;refine bj 0 (fun w O=>(an rfl dA (fP (hY.sat O) (bu hr2)))) ?_;refine bj 2 (fun w O=>(yy rfl rfl)) ?_;intro a I;refine wpQuiet_nil ?_;clear O;intro w O;refine rE 5 I ?_;clear I a;refine aJ 0 0 (dD rfl rfl) ?_ ?_
  ·intro h32;refine uO 7 ?_;intro a I;refine nZ I rfl rfl ax iU rfl rfl rfl (by simp[Value.oneCell']) O ?_;clear I a O;intro A35 w O;intro a I;refine dq I rfl rfl rfl ax iU rfl (O.p 1) (O.rd.src ax (by simp[Value.oneCell'])) (by omega) (by omega) ?_;clear I a O;intro A36 c36 w hc36 O;refine uO 6 ?_;refine u1 0 (ad rfl rfl) ?_;intro a I;refine nZ I rfl rfl ax iU rfl rfl rfl (by simp[Value.oneCell']) O ?_;clear I a O;intro A40 w O;intro a I;refine dq I rfl rfl rfl ax iU rfl (O.p 3) (O.rd.src ax (by simp[Value.oneCell'])) (by omega) (by omega) ?_;clear I a O;intro A41 c41 w hc41 O;refine uO 6 ?_;refine u1 2 (ad rfl rfl) ?_;intro a I;replace I:=I.kp [0,1,5,6,7] rfl;have hc:gQ r=some (max r.1 1,min r.2 1000000000):=by unfold gQ;rw[dM,if_pos h32]
   have ec:=nL (a:=raw.take i) hc;rw[←aF hr]at ec;have e1:ins.length+1=(ins++[max r.1 1]).length:=by simp
   have e2:outs.length+1=(outs++[min r.2 1000000000+1]).length:=by simp
   rw[e1,e2]at I;exact⟨raw.length-(i+1),by omega,i+1,ins++[max r.1 1],outs++[min r.2 1000000000+1],_,_,_,_,I,n5 (fQ ((fQ ((O.p 2).p 1) e2 (by simp)).p 1) e1 (by simp)),by omega,by rw[ec,h1];simp,by rw[ec,h2];simp,rfl⟩
  ·intro h32;refine uO 8 ?_;refine u1 2 (ad rfl rfl) ?_;intro a I;replace I:=I.kp [0,1,5,6,7] rfl;have hc:gQ r=none:=by unfold gQ;rw[dM,if_neg h32]
   have ec:=nU (a:=raw.take i) hc;rw[←aF hr]at ec;exact⟨raw.length-(i+1),by omega,i+1,ins,outs,_,_,_,_,I,O,by omega,by rw[ec,h1],by rw[ec,h2],rfl⟩
 ·intro h17;obtain rfl:i=raw.length:=by omega
  intro a I;rw[List.take_length]at h1 h2;have hcl:=iZ raw;have hl1:ins.length≤100000000000:=by rw[h1,List.length_map];omega
  have hl2:outs.length≤100000000000:=by rw[h2,List.length_map];omega
  refine rO 11 I ?_;clear I a;refine uF rfl (nB _ _ _ _ _ ins (Nat.le_refl _) (by omega) O.rd) ?_;rintro e w ⟨A1,c1,us,rfl,hp1,ha1,hT⟩;replace O:=O.aM hT;clear hT;refine uO 6 ?_;refine uF rfl (nB _ _ _ _ _ outs (Nat.le_refl _) (by omega) (O.p 2).rd) ?_;rintro e w ⟨A2,c2,vs,rfl,hp2,ha2,hT⟩;replace O:=O.aM hT;clear hT;have hlu:=hp1.length_eq;have hlv:=hp2.length_eq;intro a I;rw[h1]at hp1;rw[h2]at hp2;have hw0:=Er ha1 ha2 hp1 hp2;refine rO 3 I ?_;clear I a;intro a I;replace I:=I.kp [5,6] rfl;refine rC 18 I ?_;clear I a;intro a I
  refine wp_loop_ghost (fun (mm:Nat) a w=>∃(i j d:Nat) (out:List Int) (Ao:Option Addr) (co:Nat),Ag a 98 [(5,.slice A1 (us).length c1),(6,.slice A2 (vs).length c2),(10,.slice Ao (out).length co),(11,.int .i64 ((d:Nat):Int)),(12,.int .i64 ((j:Nat):Int)),(13,.int .i64 ((i:Nat):Int))]∧Sat W w ([cq 3 Ao co out,cq 3 A2 c2 vs,cq 3 A1 c1 us])∧(i≤us.length)∧(j≤vs.length)∧(out.length≤i+j)∧(HL us vs i j d)∧(out++fD (us.drop i) (vs.drop j) d=bI (av raw))∧mm=us.length+vs.length-(i+j)) (us.length+vs.length) ?_ ?_
  ·replace I:=I.kp [5,6,10,11,12,13] rfl;exact⟨0,0,0,[],none,0,I,sJ (O.ba 3 1),(by omega),(by omega),(by simp),(by exact hw0),(by exact Fh ha1 ha2 hp1 hp2),by omega⟩
  intro m a w hI;clear O I;obtain⟨i,j,d,out,Ao,co,I,O,hi,hj,hol,hw,ho,rfl⟩:=hI;refine rC 5 I ?_;clear I a;refine u1 0 (ak rfl ax) ?_;refine aJ 0 0 (aq rfl rfl) ?_ ?_
  ·intro h49;have hbal:=hw.JI;obtain⟨b,hv⟩:∃x,vs[j]?=some x:=⟨_,List.getElem?_eq_getElem (by omega)⟩;refine uO 13 ?_;intro a I;refine cF (fun w'=>Sat _ w' _) (by kernel_rfl) (by kernel_rfl) O.drew ?_;refine rQ 2 I ?_;clear I a;refine bj 0 (fun w O=>(ak rfl ax)) ?_;intro a I;refine K.sE I rfl rfl rfl (fun w O=>(aq (I.ev rfl) (I.ev rfl))) ?_ ?_
   ·clear I a;intro h59;refine uQ 3 ?_;obtain⟨A1_p,rfl⟩:∃q,A1=some q:=(O.p 2).rd.au (by omega);obtain⟨x1,hu⟩:∃zz_,us[i]?=some zz_:=⟨_,List.getElem?_eq_getElem (by omega)⟩;refine bj 0 (fun w O=>(ix rfl rfl ax eP)) ?_;refine bj 2 (fun w O=>(an rfl dA (fP (O.p 2).rd (bu hu)))) ?_;obtain⟨A2_p,rfl⟩:∃q,A2=some q:=(O.p 1).rd.au (by omega);refine bj 0 (fun w O=>(ix rfl rfl ax eP)) ?_;refine bj 0 (fun w O=>(an rfl dA (fP (O.p 1).rd (bu hv)))) ?_;intro a I;refine K.oU I (aT I rfl rfl rfl) rfl rfl (fun w O=>(dD (I.ev rfl) (I.ev rfl))) ?_ ?_
    ·clear I a;intro h69;refine uQ 1 ?_;intro a I;refine wpQuiet_nil ?_;clear O;intro w O;refine rE 6 I ?_;clear I a;refine aJ 0 0 (aU rfl rfl) ?_ ?_
     ·intro h72;refine uO 7 ?_;refine u1 0 (ix rfl rfl ax eP) ?_;refine u1 0 (an rfl dA (fP (O.p 2).rd (bu hu))) ?_;intro a I;refine nZ I rfl rfl ax iU rfl rfl rfl (by simp[Value.oneCell']) O ?_;clear I a O;intro A78 w O;intro a I;refine dq I rfl rfl rfl ax iU rfl (O.p 1) (O.rd.src ax (by simp[Value.oneCell'])) (by omega) (by omega) ?_;clear I a O;intro A79 c79 w hc79 O;refine uO 6 ?_;refine u1 5 (ad rfl rfl) ?_;refine u1 3 (ad rfl rfl) ?_;intro a I;replace I:=I.kp [5,6,10,11,12,13] rfl;obtain⟨hw2,es⟩:=GC hw hu hv h69;rw[es,if_pos (by omega),←List.append_assoc]at ho;have el:out.length+1=(out++[x1]).length:=by simp
      rw[el]at I;exact⟨us.length+vs.length-(i+1+(j)),by omega,i+1,j,d+1,out++[x1],_,_,I,sJ (fQ (((O.p 3).p 3).p 2) el (by simp)),by omega,by omega,by simp;omega,hw2,ho,rfl⟩
     ·intro h72;refine uO 8 ?_;refine u1 5 (ad rfl rfl) ?_;refine u1 3 (ad rfl rfl) ?_;intro a I;replace I:=I.kp [5,6,10,11,12,13] rfl;obtain⟨hw2,es⟩:=GC hw hu hv h69;rw[es,if_neg (by omega),List.nil_append]at ho;exact⟨us.length+vs.length-(i+1+(j)),by omega,i+1,j,d+1,out,_,_,I,O,by omega,by omega,by omega,hw2,ho,rfl⟩
    ·clear I a;intro h69;refine uQ 1 ?_;intro a I;refine wpQuiet_nil ?_;clear O;intro w O;refine rE 5 I ?_;clear I a;refine u1 7 (sb rfl rfl) ?_;refine aJ 0 0 (aU rfl rfl) ?_ ?_
     ·intro h87;refine uO 7 ?_;refine u1 0 (ix rfl rfl ax eP) ?_;refine u1 0 (an rfl dA (fP (O.p 1).rd (bu hv))) ?_;intro a I;refine nZ I rfl rfl ax iU rfl rfl rfl (by simp[Value.oneCell']) O ?_;clear I a O;intro A93 w O;intro a I;refine dq I rfl rfl rfl ax iU rfl (O.p 1) (O.rd.src ax (by simp[Value.oneCell'])) (by omega) (by omega) ?_;clear I a O;intro A94 c94 w hc94 O;refine uO 5 ?_;refine u1 3 (ad rfl rfl) ?_;intro a I;replace I:=I.kp [5,6,10,11,12,13] rfl;obtain⟨gy,hw2,es⟩:=yv hw hv (.inr ⟨x1,hu,h69⟩);rw[es,if_pos (by omega),←List.append_assoc]at ho;rw[show (d:Int)-1=((d-1:Nat):Int) from by omega]at I;have el:out.length+1=(out++[b]).length:=by simp
      rw[el]at I;exact⟨us.length+vs.length-(i+(j+1)),by omega,i,j+1,d-1,out++[b],_,_,I,sJ (fQ (((O.p 3).p 3).p 2) el (by simp)),by omega,by omega,by simp;omega,hw2,ho,rfl⟩
     ·intro h87;refine uO 7 ?_;refine u1 3 (ad rfl rfl) ?_;intro a I;replace I:=I.kp [5,6,10,11,12,13] rfl;obtain⟨gy,hw2,es⟩:=yv hw hv (.inr ⟨x1,hu,h69⟩);rw[es,if_neg (by omega),List.nil_append]at ho;rw[show (d:Int)-1=((d-1:Nat):Int) from by omega]at I;exact⟨us.length+vs.length-(i+(j+1)),by omega,i,j+1,d-1,out,_,_,I,O,by omega,by omega,by omega,hw2,ho,rfl⟩
   ·clear I a;intro h59;intro a I;contradiction
  ·intro h49;refine uO 3 ?_;refine u1 0 (ak rfl ax) ?_;refine aJ 0 0 (aq rfl rfl) ?_ ?_
   ·intro h54;have hbal:=hw.JI;obtain⟨b,hv⟩:∃x,vs[j]?=some x:=⟨_,List.getElem?_eq_getElem (by omega)⟩;refine uO 8 ?_;intro a I;refine cF (fun w'=>Sat _ w' _) (by kernel_rfl) (by kernel_rfl) O.drew ?_;refine rQ 2 I ?_;clear I a;refine bj 0 (fun w O=>(ak rfl ax)) ?_;intro a I;refine K.sE I rfl rfl rfl (fun w O=>(aq (I.ev rfl) (I.ev rfl))) ?_ ?_
    ·clear I a;intro h59;intro a I;contradiction
    ·clear I a;intro h59;refine uQ 11 ?_;intro a I;refine wpQuiet_nil ?_;clear O;intro w O;refine rE 5 I ?_;clear I a;refine u1 7 (sb rfl rfl) ?_;refine aJ 0 0 (aU rfl rfl) ?_ ?_
     ·intro h87;refine uO 7 ?_;obtain⟨A2_p,rfl⟩:∃q,A2=some q:=(O.p 1).rd.au (by omega);refine u1 0 (ix rfl rfl ax eP) ?_;refine u1 0 (an rfl dA (fP (O.p 1).rd (bu hv))) ?_;intro a I;refine nZ I rfl rfl ax iU rfl rfl rfl (by simp[Value.oneCell']) O ?_;clear I a O;intro A93 w O;intro a I;refine dq I rfl rfl rfl ax iU rfl (O.p 1) (O.rd.src ax (by simp[Value.oneCell'])) (by omega) (by omega) ?_;clear I a O;intro A94 c94 w hc94 O;refine uO 5 ?_;refine u1 3 (ad rfl rfl) ?_;intro a I;replace I:=I.kp [5,6,10,11,12,13] rfl;obtain⟨gy,hw2,es⟩:=yv hw hv (.inl (by omega));rw[es,if_pos (by omega),←List.append_assoc]at ho;rw[show (d:Int)-1=((d-1:Nat):Int) from by omega]at I;have el:out.length+1=(out++[b]).length:=by simp
      rw[el]at I;exact⟨us.length+vs.length-(i+(j+1)),by omega,i,j+1,d-1,out++[b],_,_,I,sJ (fQ (((O.p 3).p 3).p 2) el (by simp)),by omega,by omega,by simp;omega,hw2,ho,rfl⟩
     ·intro h87;refine uO 7 ?_;refine u1 3 (ad rfl rfl) ?_;intro a I;replace I:=I.kp [5,6,10,11,12,13] rfl;obtain⟨gy,hw2,es⟩:=yv hw hv (.inl (by omega));rw[es,if_neg (by omega),List.nil_append]at ho;rw[show (d:Int)-1=((d-1:Nat):Int) from by omega]at I;exact⟨us.length+vs.length-(i+(j+1)),by omega,i,j+1,d-1,out,_,_,I,O,by omega,by omega,by omega,hw2,ho,rfl⟩
   ·intro h54;refine uO 15 ?_;intro a I;replace I:=I.kp [4] rfl;refine rC 1 I ?_;clear I a;refine aY ?_;have hbal:=hw.JI;rw[List.drop_of_length_le (by omega),List.drop_of_length_le (by omega:vs.length≤j),su,List.append_nil]at ho;rw[←ho];exact⟨_,_,rfl,gy O⟩
theorem Bk (W:World)(A:Option Addr)(c:Nat)(ps:List PL)(hR:Bi W A c ps)(hE:∀p∈ps,p.ok W)(hn:ps.length≤1000000000000)(ht:dm (ps.map PL.d)≤100000000000):Calls Tryz.prog 279 #[.slice A (ps).length c] W fun e w'=>∃ls:List (Loc Int),e=.returned (.agg (ls.map Loc.v).toArray)∧dL ls (fun r=>bI (av (fU (ps.map PL.d) r)))∧Sat W w' [bB (ls.map (Loc.fh 3))]:=by
 refine bS Tryz.func279 [0] ?_;have O:=Sat.start W;refine uC 2 ?_;refine uN w8 O ?_;clear O;intro b2 w O;refine uO 4 ?_;refine uN G1 O ?_;clear O;intro b3 w O;refine uN G1 O ?_;clear O;intro b4 w O;refine uO 9 ?_;intro a I;refine wp_loop_ghost (fun (mm:Nat) a w=>∃(i:Nat) (l1 l2:List (Loc Int)),Ag a 116 [(0,.slice A (ps).length c),(2,.pointer (some ⟨b2,0,none⟩)),(3,.pointer (some ⟨b3,0,none⟩)),(4,.pointer (some ⟨b4,0,none⟩)),(5,.int .i64 ((i:Nat):Int))]∧Sat W w ([dE 375 b3 l1,bB (l1.map (Loc.fh 3)),dE 375 b4 l2,bB (l2.map (Loc.fh 3)),dE 377 b2 (List.replicate 16 (⟨none,0,[]⟩:Loc Int))])∧(i≤ps.length)∧(dL l1 (fun r=>(fU ((ps.map PL.d).take i) r).map Prod.fst))∧(dL l2 (fun r=>(fU ((ps.map PL.d).take i) r).map Prod.snd))∧mm=ps.length-i) ps.length ?_ ?_
 ·replace I:=I.kp [0,2,3,4,5] rfl;have hS0:=lq (Loc.fh 3) (lq (Loc.fh 3) O (fun L' s=>s.ba 3 1) 16) (fun L' s=>s.ba 3 1) 16;have hS1:Sat W w [dE 375 b3 (List.replicate 16 (⟨none,0,[]⟩:Loc Int)),bB ((List.replicate 16 (⟨none,0,[]⟩:Loc Int)).map (Loc.fh 3)),dE 375 b4 (List.replicate 16 (⟨none,0,[]⟩:Loc Int)),bB ((List.replicate 16 (⟨none,0,[]⟩:Loc Int)).map (Loc.fh 3)),dE 377 b2 (List.replicate 16 (⟨none,0,[]⟩:Loc Int))]:=(((((hS0.p 4).p 2).p 3).p 3).p 4);exact⟨0,_,_,I,hS1,(by omega),(by exact kx),(by exact kx),by omega⟩
 intro m a w hI;clear O I;obtain⟨i,l1,l2,I,O,hi,hT1,hT2,rfl⟩:=hI;refine rC 5 I ?_;clear I a;refine u1 0 (ak rfl fF) ?_;refine aJ 0 0 (aq rfl rfl) ?_ ?_
 ·intro h14;refine uO 14 ?_;intro a I;refine wp_loop_ghost (fun (mm:Nat) a w=>∃(j:Nat) (l1 l2:List (Loc Int)),Ag a 116 [(0,.slice A (ps).length c),(2,.pointer (some ⟨b2,0,none⟩)),(3,.pointer (some ⟨b3,0,none⟩)),(4,.pointer (some ⟨b4,0,none⟩)),(5,.int .i64 ((i:Nat):Int)),(6,.int .i64 ((j:Nat):Int))]∧Sat W w ([dE 375 b3 l1,bB (l1.map (Loc.fh 3)),dE 375 b4 l2,bB (l2.map (Loc.fh 3)),dE 377 b2 (List.replicate 16 (⟨none,0,[]⟩:Loc Int))])∧(j≤16)∧(dL l1 (fun r=>(du ((ps.map PL.d).take i) (pD ps i) j 0 r).map Prod.fst))∧(dL l2 (fun r=>(du ((ps.map PL.d).take i) (pD ps i) j 0 r).map Prod.snd))∧(j≤(pD ps i).vec.length)∧mm=16-j) 16 ?_ ?_
  ·replace I:=I.kp [0,2,3,4,5,6] rfl;exact⟨0,_,_,I,O,(by omega),(by exact hT1.congr fun r hr=>by rw[r6]),(by exact hT2.congr fun r hr=>by rw[r6]),(by omega),by omega⟩
  intro m a w hI;clear O I;obtain⟨j,l1,l2,I,O,hj,hT1,hT2,hj2,rfl⟩:=hI;refine rC 6 I ?_;clear I a;obtain⟨A_p,rfl⟩:∃q,A=some q:=(hR.sat O).au (by omega);obtain⟨p,hp⟩:∃zz_,ps[i]?=some zz_:=⟨_,List.getElem?_eq_getElem (by omega)⟩;have hpo:=hE p (List.mem_of_getElem? hp);have hsp:=wS (lv hp);obtain⟨va,vc,ca,cc,d⟩:=p;have hpv:kY W va vc d.vec:=hpo.vec;have hpc:jk W ca cc d.ab:=hpo.ab;intro a I;dsimp only at hsp;rw[B1 hp]at hT1 hT2 hj2;dsimp only at hT1 hT2 hj2;refine o1 0 I (ib (I.ev rfl) (I.ev rfl) fF aO (by omega) (by omega)) ?_;clear I a;refine u1 0 (aC rfl cD) ?_;refine u1 0 (an rfl gU (bQ (hR.sat O) (kT hp 0 _ rfl))) ?_;refine u1 0 (ak rfl ax) ?_;refine aJ 0 0 (aq rfl rfl) ?_ ?_
  ·intro h24;intro a I;dsimp only at h24;refine rO 2 I ?_;clear I a;refine aJ 0 0 (aq rfl rfl) ?_ ?_
   ·intro h27;obtain⟨lA,lc,hl1⟩:=hT1.get (show j<16 by omega);obtain⟨mA,mc,hl2⟩:=hT2.get (show j<16 by omega);have hlen:=oO ((ps.map PL.d).take i) d j 0 j;have hq1:((du ((ps.map PL.d).take i) d j 0 j).map Prod.fst).length≤100000000000:=by rw[List.length_map];omega
    have hq2:((du ((ps.map PL.d).take i) d j 0 j).map Prod.snd).length≤100000000000:=by rw[List.length_map];omega
    intro a I;replace O:Sat W w (cq 3 lA lc ((du ((ps.map PL.d).take i) d j 0 j).map Prod.fst)::_):=(O.p 1).dU (i7 hl1);refine rO 12 I ?_;clear I a;refine u1 0 (iA rfl rfl fx fK) ?_;refine u1 0 (an rfl gU (gq (O.p 2) hl1)) ?_;intro a I;refine nZ I rfl rfl ax iU rfl rfl rfl (by simp[Value.oneCell']) O ?_;clear I a O;intro A35 w O;intro a I;refine dq I rfl rfl rfl ax iU rfl (O.p 1) (O.rd.src ax (by simp[Value.oneCell'])) (by omega) (by omega) ?_;clear I a O;intro A36 c36 w hc36 O;refine u1 0 (iA rfl rfl fx fK) ?_;intro a I;refine Jx (i:=j) ⟨A36,c36,(du ((ps.map PL.d).take i) d j 0 j).map Prod.fst++[1]⟩ I rfl (by simp) rfl (by simp[Loc.v]) gU fK (O.p 3) hl1 ?_;clear O;intro w O
    replace O:=jQ (f:=Loc.fh 3) hl1 (l':=⟨A36,c36,(du ((ps.map PL.d).take i) d j 0 j).map Prod.fst++[1]⟩) (fQ ((O.p 3).p 2) (by simp) (by simp));replace O:Sat W w (cq 3 mA mc ((du ((ps.map PL.d).take i) d j 0 j).map Prod.snd)::_):=(O.p 4).dU (i7 hl2);refine rO 2 I ?_;clear I a;intro a I;refine bf [13,15] O (by kernel_rfl) ?_;replace O:=O.drew;refine rX [0,1] I ?_;clear I a;refine bF 2 [] rfl (fun w=>(iA rfl rfl fx fK)) ?_;refine cZ 3 [4,5] rfl (by exact⟨[],O⟩) (fun w hT=>have O:=hT.sat;(an rfl gU (gq (O.p 5) hl2))) ?_;refine bF 6 [] rfl (fun w=>(ix rfl rfl fF aO)) ?_;refine bF 7 [] rfl (fun w=>(aC rfl cD)) ?_;refine cZ 8 [9] rfl (by exact⟨[],O⟩) (fun w hT=>have O:=hT.sat;(an rfl gU (bQ (hR.sat O) (kT hp 0 _ rfl)))) ?_
    obtain⟨va_p,rfl⟩:∃q,va=some q:=(hpv.sat O).au (by omega);obtain⟨v,hv⟩:∃zz_,d.vec[j]?=some zz_:=⟨_,List.getElem?_eq_getElem (by omega)⟩;refine bF 10 [] rfl (fun w=>(ix rfl rfl ax eP)) ?_;refine cZ 11 [] rfl (by exact⟨[],O⟩) (fun w hT=>have O:=hT.sat;(an rfl dA (fP (hpv.sat O) (bu hv)))) ?_;intro a I;refine aE 12 (by kernel_rfl) ?_;refine eL I rfl rfl rfl ax iU rfl rfl rfl (by simp[Value.oneCell']) O ?_;clear I a O;intro A50 w O;intro a I;refine⟨.inr fun _=>(by exact⟨[_],O⟩),?_⟩;refine aE 13 (by kernel_rfl) ?_;refine eA I rfl rfl rfl rfl ax iU rfl (O.p 1) (O.rd.src ax (by simp[Value.oneCell'])) (by omega) (by omega) ?_;clear I a O;intro A51 c51 w hc51 O;intro a I;refine⟨.inl rfl,?_⟩;refine P1 14 [] I rfl (fun w=>(fG (I.ev rfl) (I.ev rfl) fx fK (by omega) (by omega))) ?_;clear I a;intro a I
    refine aE 15 (by kernel_rfl) ?_;refine Hc (i:=j) ⟨A51,c51,(du ((ps.map PL.d).take i) d j 0 j).map Prod.snd++[v]⟩ I rfl rfl (by simp) rfl (by simp[Loc.v]) gU fK (O.p 6) hl2 ?_;clear O;intro w O;refine⟨.inl rfl,?_⟩;refine ah (by kernel_rfl) ?_ _;refine rE 4 I ?_;clear I a;refine u1 2 (ad rfl rfl) ?_;intro a I;replace I:=I.kp [0,2,3,4,5,6] rfl;have hS2:=jQ (f:=Loc.fh 3) hl2 (l':=⟨A51,c51,(du ((ps.map PL.d).take i) d j 0 j).map Prod.snd++[v]⟩) (fQ ((O.p 3).p 2) (by simp) (by simp));have e1:(du ((ps.map PL.d).take i) d (j+1) 0 j).map Prod.fst=(du ((ps.map PL.d).take i) d j 0 j).map Prod.fst++[1]:=by rw[(mJ hv).2];simp
    have e2:(du ((ps.map PL.d).take i) d (j+1) 0 j).map Prod.snd=(du ((ps.map PL.d).take i) d j 0 j).map Prod.snd++[v]:=by rw[(mJ hv).2];simp
    refine⟨16-(j+1),by omega,j+1,_,_,I,(((((hS2.p 6).p 1).p 2).p 4).p 5).cw [_,_,_,_,_],by omega,?_,?_,by rw[B1 hp];show j+1≤d.vec.length;omega,rfl⟩
    ·rw[B1 hp];exact hT1.set e1.symm fun k hk hne=>by rw[(mJ hv).1 k hne]
    ·rw[B1 hp];exact hT2.set e2.symm fun k hk hne=>by rw[(mJ hv).1 k hne]
   ·intro h27;obtain rfl:j=min d.vec.length 16:=by omega
    refine uO 15 ?_;intro a I;refine wp_loop_ghost (fun (mm:Nat) a w=>∃(k:Nat) (l1 l2:List (Loc Int)),Ag a 116 [(0,.slice (some A_p) (ps).length c),(2,.pointer (some ⟨b2,0,none⟩)),(3,.pointer (some ⟨b3,0,none⟩)),(4,.pointer (some ⟨b4,0,none⟩)),(5,.int .i64 ((i:Nat):Int)),(7,.int .i64 ((k:Nat):Int))]∧Sat W w ([dE 375 b3 l1,bB (l1.map (Loc.fh 3)),dE 375 b4 l2,bB (l2.map (Loc.fh 3)),dE 377 b2 (List.replicate 16 (⟨none,0,[]⟩:Loc Int))])∧(k≤d.ab.length)∧(dL l1 (fun r=>(du ((ps.map PL.d).take i) d (min d.vec.length 16) k r).map Prod.fst))∧(dL l2 (fun r=>(du ((ps.map PL.d).take i) d (min d.vec.length 16) k r).map Prod.snd))∧mm=d.ab.length-k) d.ab.length ?_ ?_
    ·replace I:=I.kp [0,2,3,4,5,7] rfl;exact⟨0,_,_,I,O,(by omega),(by exact hT1),(by exact hT2),by omega⟩
    intro m a w hI;clear O I;obtain⟨k,l1,l2,I,O,hk,hT1,hT2,rfl⟩:=hI;refine rC 6 I ?_;clear I a;refine u1 0 (ix rfl rfl fF aO) ?_;refine u1 0 (aC rfl cd) ?_;refine u1 0 (an rfl we (bQ (hR.sat O) (kT hp 1 _ rfl))) ?_;refine u1 0 (ak rfl dt) ?_;refine aJ 0 0 (aq rfl rfl) ?_ ?_
    ·intro h60;intro a I;dsimp only at h60;refine rO 11 I ?_;clear I a;refine u1 0 (ix rfl rfl fF aO) ?_;refine u1 0 (aC rfl cd) ?_;refine u1 1 (an rfl we (bQ (hR.sat O) (kT hp 1 _ rfl))) ?_;obtain⟨ca_p,rfl⟩:∃q,ca=some q:=(hpc.sat O).au (by omega);obtain⟨s,hs⟩:∃zz_,d.ab[k]?=some zz_:=⟨_,List.getElem?_eq_getElem (by omega)⟩;refine u1 0 (ix rfl rfl dt cX) ?_;refine u1 0 (aG (cs:=gH s) rfl lr cX (fun j u e=>bQ (hpc.sat O) (dQ hs j u e))) ?_;refine uN nK O ?_;clear O;intro b8 w O;refine uW (vs:=[_,_,_]) (cs':=[_,_,_]) rfl rfl cX O ?_;clear O;intro w O;refine uO 4 ?_;refine u1 0 (aa rfl cj) ?_;refine u1 0 (ld rfl) ?_;refine aJ 0 0 (dF rfl rfl) ?_ ?_
     ·intro h73;refine uO 1 ?_;refine u1 0 (aa rfl cj) ?_;refine u1 0 (ld rfl) ?_;refine aJ 0 0 (aq rfl rfl) ?_ ?_
      ·intro h77;obtain⟨lA,lc,hl1⟩:=hT1.get (show s.rep.toNat<16 by omega);obtain⟨mA,mc,hl2⟩:=hT2.get (show s.rep.toNat<16 by omega);have hlen:=oO ((ps.map PL.d).take i) d (min d.vec.length 16) k s.rep.toNat;have hq1:((du ((ps.map PL.d).take i) d (min d.vec.length 16) k s.rep.toNat).map Prod.fst).length≤100000000000:=by rw[List.length_map];omega
       have hq2:((du ((ps.map PL.d).take i) d (min d.vec.length 16) k s.rep.toNat).map Prod.snd).length≤100000000000:=by rw[List.length_map];omega
       intro a I;replace O:Sat W w (cq 3 lA lc ((du ((ps.map PL.d).take i) d (min d.vec.length 16) k s.rep.toNat).map Prod.fst)::_):=(O.p 2).dU (i7 hl1);refine rO 5 I ?_;clear I a;intro a I;refine jo [11] (lB W [bB ((l1.map (Loc.fh 3)).eraseIdx s.rep.toNat),a6 b8 (.cells #[.int .i64 s.rep,.int .i64 s.lo,.int .i64 s.hi] 219),dE 375 b3 l1,dE 375 b4 l2,bB (l2.map (Loc.fh 3)),dE 377 b2 (List.replicate 16 (⟨none,0,[]⟩:Loc Int))]) (by kernel_rfl) ?_;replace O:=O.drew;refine P1 0 [] I rfl (fun w=>(aa (I.ev rfl) cj)) ?_;clear I a
       refine cZ 1 [] rfl (by exact⟨[_],O⟩) (fun w hT=>have O:=hT.sat;(ld rfl)) ?_;refine bF 2 [] rfl (fun w=>(aa rfl cj)) ?_;refine cZ 3 [] rfl (by exact⟨[_],O⟩) (fun w hT=>have O:=hT.sat;(ld rfl)) ?_;refine bF 4 [] rfl (fun w=>(iA rfl rfl fx fK)) ?_;refine cZ 5 [] rfl (by exact⟨[_],O⟩) (fun w hT=>have O:=hT.sat;(an rfl gU (gq (O.p 2) hl1))) ?_;refine bF 6 [] rfl (fun w=>(aa rfl eQ)) ?_;refine cZ 7 [] rfl (by exact⟨[_],O⟩) (fun w hT=>have O:=hT.sat;(ld rfl)) ?_;intro a I;refine aE 8 (by kernel_rfl) ?_;refine eL I rfl rfl rfl ax iU rfl rfl rfl (by simp[Value.oneCell']) O ?_;clear I a O;intro A87 w O;intro a I;refine⟨.inr fun _=>(by exact⟨[_,_],O⟩),?_⟩;refine aE 9 (by kernel_rfl) ?_;refine eA I rfl rfl rfl rfl ax iU rfl (O.p 1) (O.rd.src ax (by simp[Value.oneCell'])) (by omega) (by omega) ?_
       clear I a O;intro A88 c88 w hc88 O;intro a I;refine⟨.inr fun _=>(by exact⟨[_,_],O⟩),?_⟩;refine P1 10 [] I rfl (fun w=>(fG (I.ev rfl) (I.ev rfl) fx fK (by omega) (by omega))) ?_;clear I a;intro a I;refine aE 11 (by kernel_rfl) ?_;refine Hc (i:=s.rep.toNat) ⟨A88,c88,(du ((ps.map PL.d).take i) d (min d.vec.length 16) k s.rep.toNat).map Prod.fst++[s.lo]⟩ I rfl rfl (by simp) rfl (by simp[Loc.v]) gU fK (O.p 4) hl1 ?_;clear O;intro w O;replace O:=jQ (f:=Loc.fh 3) hl1 (l':=⟨A88,c88,(du ((ps.map PL.d).take i) d (min d.vec.length 16) k s.rep.toNat).map Prod.fst++[s.lo]⟩) (fQ ((O.p 3).p 2) (by simp) (by simp));replace O:=(O.p 2).drop;replace O:Sat W w (cq 3 mA mc ((du ((ps.map PL.d).take i) d (min d.vec.length 16) k s.rep.toNat).map Prod.snd)::_):=(O.p 4).dU (i7 hl2);refine⟨.inl rfl,?_⟩
       refine ah (by kernel_rfl) ?_ _;refine rE 1 I ?_;clear I a;intro a I;refine jo [11] (lB W [bB ((l2.map (Loc.fh 3)).eraseIdx s.rep.toNat),bB ((l1.set s.rep.toNat ⟨A88,c88,(du ((ps.map PL.d).take i) d (min d.vec.length 16) k s.rep.toNat).map Prod.fst++[s.lo]⟩).map (Loc.fh 3)),dE 375 b3 (l1.set s.rep.toNat ⟨A88,c88,(du ((ps.map PL.d).take i) d (min d.vec.length 16) k s.rep.toNat).map Prod.fst++[s.lo]⟩),a6 b8 (.cells #[.int .i64 s.rep,.int .i64 s.lo,.int .i64 s.hi] 219),dE 375 b4 l2,dE 377 b2 (List.replicate 16 (⟨none,0,[]⟩:Loc Int))]) (by kernel_rfl) ?_;replace O:=O.drew;refine P1 0 [] I rfl (fun w=>(aa (I.ev rfl) cj)) ?_;clear I a
       refine cZ 1 [] rfl (by exact⟨[_],O⟩) (fun w hT=>have O:=hT.sat;(ld rfl)) ?_;refine bF 2 [] rfl (fun w=>(aa rfl cj)) ?_;refine cZ 3 [] rfl (by exact⟨[_],O⟩) (fun w hT=>have O:=hT.sat;(ld rfl)) ?_;refine bF 4 [] rfl (fun w=>(iA rfl rfl fx fK)) ?_;refine cZ 5 [] rfl (by exact⟨[_],O⟩) (fun w hT=>have O:=hT.sat;(an rfl gU (gq (O.p 4) hl2))) ?_;refine bF 6 [] rfl (fun w=>(aa rfl eE)) ?_;refine cZ 7 [] rfl (by exact⟨[_],O⟩) (fun w hT=>have O:=hT.sat;(ld rfl)) ?_;intro a I;refine aE 8 (by kernel_rfl) ?_;refine eL I rfl rfl rfl ax iU rfl rfl rfl (by simp[Value.oneCell']) O ?_;clear I a O;intro A98 w O;intro a I;refine⟨.inr fun _=>(by exact⟨[_,_],O⟩),?_⟩;refine aE 9 (by kernel_rfl) ?_;refine eA I rfl rfl rfl rfl ax iU rfl (O.p 1) (O.rd.src ax (by simp[Value.oneCell'])) (by omega) (by omega) ?_
       clear I a O;intro A99 c99 w hc99 O;intro a I;refine⟨.inr fun _=>(by exact⟨[_,_],O⟩),?_⟩;refine P1 10 [] I rfl (fun w=>(fG (I.ev rfl) (I.ev rfl) fx fK (by omega) (by omega))) ?_;clear I a;intro a I;refine aE 11 (by kernel_rfl) ?_;refine Hc (i:=s.rep.toNat) ⟨A99,c99,(du ((ps.map PL.d).take i) d (min d.vec.length 16) k s.rep.toNat).map Prod.snd++[s.hi]⟩ I rfl rfl (by simp) rfl (by simp[Loc.v]) gU fK (O.p 6) hl2 ?_;clear O;intro w O;refine⟨.inl rfl,?_⟩;refine ah (by kernel_rfl) ?_ _;refine rE 4 I ?_;clear I a;refine u1 2 (ad rfl rfl) ?_;intro a I;replace I:=I.kp [0,2,3,4,5,7] rfl;have hS2:=jQ (f:=Loc.fh 3) hl2 (l':=⟨A99,c99,(du ((ps.map PL.d).take i) d (min d.vec.length 16) k s.rep.toNat).map Prod.snd++[s.hi]⟩) (fQ ((O.p 3).p 2) (by simp) (by simp))
       have hst:=fun q=>fk (T:=((ps.map PL.d).take i)) (j:=min d.vec.length 16) hs q
       refine⟨d.ab.length-(k+1),by omega,k+1,_,_,I,(((((hS2.p 6).p 1).p 2).p 4).p 5).cw [_,_,_,_,_],by omega,?_,?_,rfl⟩
       ·refine hT1.set ?_ fun q hq hne=>?_
        ·rw[hst,if_pos (by omega)];simp
        ·rw[hst,if_neg (by omega),List.append_nil]
       ·refine hT2.set ?_ fun q hq hne=>?_
        ·rw[hst,if_pos (by omega)];simp
        ·rw[hst,if_neg (by omega),List.append_nil]
      ·intro h77;refine uO 9 ?_;refine u1 2 (ad rfl rfl) ?_;intro a I;replace I:=I.kp [0,2,3,4,5,7] rfl;have hst:=fun q=>fk (T:=((ps.map PL.d).take i)) (j:=min d.vec.length 16) hs q
       refine⟨d.ab.length-(k+1),by omega,k+1,l1,l2,I,O.drop,by omega,?_,?_,rfl⟩
       ·exact hT1.congr fun q hq=>by rw[hst,if_neg (by omega),List.append_nil]
       ·exact hT2.congr fun q hq=>by rw[hst,if_neg (by omega),List.append_nil]
     ·intro h73;refine uO 13 ?_;refine u1 2 (ad rfl rfl) ?_;intro a I;replace I:=I.kp [0,2,3,4,5,7] rfl;have hst:=fun q=>fk (T:=((ps.map PL.d).take i)) (j:=min d.vec.length 16) hs q
      refine⟨d.ab.length-(k+1),by omega,k+1,l1,l2,I,O.drop,by omega,?_,?_,rfl⟩
      ·exact hT1.congr fun q hq=>by rw[hst,if_neg (by omega),List.append_nil]
      ·exact hT2.congr fun q hq=>by rw[hst,if_neg (by omega),List.append_nil]
    ·intro h60;intro a I;dsimp only at h60;refine rO 11 I ?_;clear I a;refine u1 2 (ad rfl rfl) ?_;intro a I;replace I:=I.kp [0,2,3,4,5] rfl;refine⟨ps.length-(i+1),by omega,i+1,l1,l2,I,O,by omega,?_,?_,rfl⟩
     ·rw[aF (lv hp)];exact hT1.congr fun r hr=>by rw[←ov hr (show d.ab.length≤k by omega)]
     ·rw[aF (lv hp)];exact hT2.congr fun r hr=>by rw[←ov hr (show d.ab.length≤k by omega)]
  ·intro h24;intro a I;dsimp only at h24;obtain rfl:j=min d.vec.length 16:=by omega
   refine rO 18 I ?_;clear I a;intro a I;refine wp_loop_ghost (fun (mm:Nat) a w=>∃(k:Nat) (l1 l2:List (Loc Int)),Ag a 116 [(0,.slice (some A_p) (ps).length c),(2,.pointer (some ⟨b2,0,none⟩)),(3,.pointer (some ⟨b3,0,none⟩)),(4,.pointer (some ⟨b4,0,none⟩)),(5,.int .i64 ((i:Nat):Int)),(7,.int .i64 ((k:Nat):Int))]∧Sat W w ([dE 375 b3 l1,bB (l1.map (Loc.fh 3)),dE 375 b4 l2,bB (l2.map (Loc.fh 3)),dE 377 b2 (List.replicate 16 (⟨none,0,[]⟩:Loc Int))])∧(k≤d.ab.length)∧(dL l1 (fun r=>(du ((ps.map PL.d).take i) d (min d.vec.length 16) k r).map Prod.fst))∧(dL l2 (fun r=>(du ((ps.map PL.d).take i) d (min d.vec.length 16) k r).map Prod.snd))∧mm=d.ab.length-k) d.ab.length ?_ ?_
   ·replace I:=I.kp [0,2,3,4,5,7] rfl;exact⟨0,_,_,I,O,(by omega),(by exact hT1),(by exact hT2),by omega⟩
   intro m a w hI;clear O I;obtain⟨k,l1,l2,I,O,hk,hT1,hT2,rfl⟩:=hI;refine rC 6 I ?_;clear I a;refine u1 0 (ix rfl rfl fF aO) ?_;refine u1 0 (aC rfl cd) ?_;refine u1 0 (an rfl we (bQ (hR.sat O) (kT hp 1 _ rfl))) ?_;refine u1 0 (ak rfl dt) ?_;refine aJ 0 0 (aq rfl rfl) ?_ ?_
   ·intro h60;intro a I;dsimp only at h60;refine rO 11 I ?_;clear I a;refine u1 0 (ix rfl rfl fF aO) ?_;refine u1 0 (aC rfl cd) ?_;refine u1 1 (an rfl we (bQ (hR.sat O) (kT hp 1 _ rfl))) ?_;obtain⟨ca_p,rfl⟩:∃q,ca=some q:=(hpc.sat O).au (by omega);obtain⟨s,hs⟩:∃zz_,d.ab[k]?=some zz_:=⟨_,List.getElem?_eq_getElem (by omega)⟩;refine u1 0 (ix rfl rfl dt cX) ?_;refine u1 0 (aG (cs:=gH s) rfl lr cX (fun j u e=>bQ (hpc.sat O) (dQ hs j u e))) ?_;refine uN nK O ?_;clear O;intro b8 w O;refine uW (vs:=[_,_,_]) (cs':=[_,_,_]) rfl rfl cX O ?_;clear O;intro w O;refine uO 4 ?_;refine u1 0 (aa rfl cj) ?_;refine u1 0 (ld rfl) ?_;refine aJ 0 0 (dF rfl rfl) ?_ ?_
    ·intro h73;refine uO 1 ?_;refine u1 0 (aa rfl cj) ?_;refine u1 0 (ld rfl) ?_;refine aJ 0 0 (aq rfl rfl) ?_ ?_
     ·intro h77;obtain⟨lA,lc,hl1⟩:=hT1.get (show s.rep.toNat<16 by omega);obtain⟨mA,mc,hl2⟩:=hT2.get (show s.rep.toNat<16 by omega);have hlen:=oO ((ps.map PL.d).take i) d (min d.vec.length 16) k s.rep.toNat;have hq1:((du ((ps.map PL.d).take i) d (min d.vec.length 16) k s.rep.toNat).map Prod.fst).length≤100000000000:=by rw[List.length_map];omega
      have hq2:((du ((ps.map PL.d).take i) d (min d.vec.length 16) k s.rep.toNat).map Prod.snd).length≤100000000000:=by rw[List.length_map];omega
      intro a I;replace O:Sat W w (cq 3 lA lc ((du ((ps.map PL.d).take i) d (min d.vec.length 16) k s.rep.toNat).map Prod.fst)::_):=(O.p 2).dU (i7 hl1);refine rO 5 I ?_;clear I a;intro a I;refine jo [11] (lB W [bB ((l1.map (Loc.fh 3)).eraseIdx s.rep.toNat),a6 b8 (.cells #[.int .i64 s.rep,.int .i64 s.lo,.int .i64 s.hi] 219),dE 375 b3 l1,dE 375 b4 l2,bB (l2.map (Loc.fh 3)),dE 377 b2 (List.replicate 16 (⟨none,0,[]⟩:Loc Int))]) (by kernel_rfl) ?_;replace O:=O.drew;refine P1 0 [] I rfl (fun w=>(aa (I.ev rfl) cj)) ?_;clear I a
      refine cZ 1 [] rfl (by exact⟨[_],O⟩) (fun w hT=>have O:=hT.sat;(ld rfl)) ?_;refine bF 2 [] rfl (fun w=>(aa rfl cj)) ?_;refine cZ 3 [] rfl (by exact⟨[_],O⟩) (fun w hT=>have O:=hT.sat;(ld rfl)) ?_;refine bF 4 [] rfl (fun w=>(iA rfl rfl fx fK)) ?_;refine cZ 5 [] rfl (by exact⟨[_],O⟩) (fun w hT=>have O:=hT.sat;(an rfl gU (gq (O.p 2) hl1))) ?_;refine bF 6 [] rfl (fun w=>(aa rfl eQ)) ?_;refine cZ 7 [] rfl (by exact⟨[_],O⟩) (fun w hT=>have O:=hT.sat;(ld rfl)) ?_;intro a I;refine aE 8 (by kernel_rfl) ?_;refine eL I rfl rfl rfl ax iU rfl rfl rfl (by simp[Value.oneCell']) O ?_;clear I a O;intro A87 w O;intro a I;refine⟨.inr fun _=>(by exact⟨[_,_],O⟩),?_⟩;refine aE 9 (by kernel_rfl) ?_;refine eA I rfl rfl rfl rfl ax iU rfl (O.p 1) (O.rd.src ax (by simp[Value.oneCell'])) (by omega) (by omega) ?_
      clear I a O;intro A88 c88 w hc88 O;intro a I;refine⟨.inr fun _=>(by exact⟨[_,_],O⟩),?_⟩;refine P1 10 [] I rfl (fun w=>(fG (I.ev rfl) (I.ev rfl) fx fK (by omega) (by omega))) ?_;clear I a;intro a I;refine aE 11 (by kernel_rfl) ?_;refine Hc (i:=s.rep.toNat) ⟨A88,c88,(du ((ps.map PL.d).take i) d (min d.vec.length 16) k s.rep.toNat).map Prod.fst++[s.lo]⟩ I rfl rfl (by simp) rfl (by simp[Loc.v]) gU fK (O.p 4) hl1 ?_;clear O;intro w O;replace O:=jQ (f:=Loc.fh 3) hl1 (l':=⟨A88,c88,(du ((ps.map PL.d).take i) d (min d.vec.length 16) k s.rep.toNat).map Prod.fst++[s.lo]⟩) (fQ ((O.p 3).p 2) (by simp) (by simp));replace O:=(O.p 2).drop;replace O:Sat W w (cq 3 mA mc ((du ((ps.map PL.d).take i) d (min d.vec.length 16) k s.rep.toNat).map Prod.snd)::_):=(O.p 4).dU (i7 hl2);refine⟨.inl rfl,?_⟩
      refine ah (by kernel_rfl) ?_ _;refine rE 1 I ?_;clear I a;intro a I;refine jo [11] (lB W [bB ((l2.map (Loc.fh 3)).eraseIdx s.rep.toNat),bB ((l1.set s.rep.toNat ⟨A88,c88,(du ((ps.map PL.d).take i) d (min d.vec.length 16) k s.rep.toNat).map Prod.fst++[s.lo]⟩).map (Loc.fh 3)),dE 375 b3 (l1.set s.rep.toNat ⟨A88,c88,(du ((ps.map PL.d).take i) d (min d.vec.length 16) k s.rep.toNat).map Prod.fst++[s.lo]⟩),a6 b8 (.cells #[.int .i64 s.rep,.int .i64 s.lo,.int .i64 s.hi] 219),dE 375 b4 l2,dE 377 b2 (List.replicate 16 (⟨none,0,[]⟩:Loc Int))]) (by kernel_rfl) ?_;replace O:=O.drew;refine P1 0 [] I rfl (fun w=>(aa (I.ev rfl) cj)) ?_;clear I a
      refine cZ 1 [] rfl (by exact⟨[_],O⟩) (fun w hT=>have O:=hT.sat;(ld rfl)) ?_;refine bF 2 [] rfl (fun w=>(aa rfl cj)) ?_;refine cZ 3 [] rfl (by exact⟨[_],O⟩) (fun w hT=>have O:=hT.sat;(ld rfl)) ?_;refine bF 4 [] rfl (fun w=>(iA rfl rfl fx fK)) ?_;refine cZ 5 [] rfl (by exact⟨[_],O⟩) (fun w hT=>have O:=hT.sat;(an rfl gU (gq (O.p 4) hl2))) ?_;refine bF 6 [] rfl (fun w=>(aa rfl eE)) ?_;refine cZ 7 [] rfl (by exact⟨[_],O⟩) (fun w hT=>have O:=hT.sat;(ld rfl)) ?_;intro a I;refine aE 8 (by kernel_rfl) ?_;refine eL I rfl rfl rfl ax iU rfl rfl rfl (by simp[Value.oneCell']) O ?_;clear I a O;intro A98 w O;intro a I;refine⟨.inr fun _=>(by exact⟨[_,_],O⟩),?_⟩;refine aE 9 (by kernel_rfl) ?_;refine eA I rfl rfl rfl rfl ax iU rfl (O.p 1) (O.rd.src ax (by simp[Value.oneCell'])) (by omega) (by omega) ?_
      clear I a O;intro A99 c99 w hc99 O;intro a I;refine⟨.inr fun _=>(by exact⟨[_,_],O⟩),?_⟩;refine P1 10 [] I rfl (fun w=>(fG (I.ev rfl) (I.ev rfl) fx fK (by omega) (by omega))) ?_;clear I a;intro a I;refine aE 11 (by kernel_rfl) ?_;refine Hc (i:=s.rep.toNat) ⟨A99,c99,(du ((ps.map PL.d).take i) d (min d.vec.length 16) k s.rep.toNat).map Prod.snd++[s.hi]⟩ I rfl rfl (by simp) rfl (by simp[Loc.v]) gU fK (O.p 6) hl2 ?_;clear O;intro w O;refine⟨.inl rfl,?_⟩;refine ah (by kernel_rfl) ?_ _;refine rE 4 I ?_;clear I a;refine u1 2 (ad rfl rfl) ?_;intro a I;replace I:=I.kp [0,2,3,4,5,7] rfl;have hS2:=jQ (f:=Loc.fh 3) hl2 (l':=⟨A99,c99,(du ((ps.map PL.d).take i) d (min d.vec.length 16) k s.rep.toNat).map Prod.snd++[s.hi]⟩) (fQ ((O.p 3).p 2) (by simp) (by simp))
      have hst:=fun q=>fk (T:=((ps.map PL.d).take i)) (j:=min d.vec.length 16) hs q
      refine⟨d.ab.length-(k+1),by omega,k+1,_,_,I,(((((hS2.p 6).p 1).p 2).p 4).p 5).cw [_,_,_,_,_],by omega,?_,?_,rfl⟩
      ·refine hT1.set ?_ fun q hq hne=>?_
       ·rw[hst,if_pos (by omega)];simp
       ·rw[hst,if_neg (by omega),List.append_nil]
      ·refine hT2.set ?_ fun q hq hne=>?_
       ·rw[hst,if_pos (by omega)];simp
       ·rw[hst,if_neg (by omega),List.append_nil]
     ·intro h77;refine uO 9 ?_;refine u1 2 (ad rfl rfl) ?_;intro a I;replace I:=I.kp [0,2,3,4,5,7] rfl;have hst:=fun q=>fk (T:=((ps.map PL.d).take i)) (j:=min d.vec.length 16) hs q
      refine⟨d.ab.length-(k+1),by omega,k+1,l1,l2,I,O.drop,by omega,?_,?_,rfl⟩
      ·exact hT1.congr fun q hq=>by rw[hst,if_neg (by omega),List.append_nil]
      ·exact hT2.congr fun q hq=>by rw[hst,if_neg (by omega),List.append_nil]
    ·intro h73;refine uO 13 ?_;refine u1 2 (ad rfl rfl) ?_;intro a I;replace I:=I.kp [0,2,3,4,5,7] rfl;have hst:=fun q=>fk (T:=((ps.map PL.d).take i)) (j:=min d.vec.length 16) hs q
     refine⟨d.ab.length-(k+1),by omega,k+1,l1,l2,I,O.drop,by omega,?_,?_,rfl⟩
     ·exact hT1.congr fun q hq=>by rw[hst,if_neg (by omega),List.append_nil]
     ·exact hT2.congr fun q hq=>by rw[hst,if_neg (by omega),List.append_nil]
   ·intro h60;intro a I;dsimp only at h60;refine rO 11 I ?_;clear I a;refine u1 2 (ad rfl rfl) ?_;intro a I;replace I:=I.kp [0,2,3,4,5] rfl;refine⟨ps.length-(i+1),by omega,i+1,l1,l2,I,O,by omega,?_,?_,rfl⟩
    ·rw[aF (lv hp)];exact hT1.congr fun r hr=>by rw[←ov hr (show d.ab.length≤k by omega)]
    ·rw[aF (lv hp)];exact hT2.congr fun r hr=>by rw[←ov hr (show d.ab.length≤k by omega)]
 ·intro h14;obtain rfl:i=ps.length:=by omega
  intro a I;rw[List.take_of_length_le (by simp)]at hT1 hT2;refine rO 10 I ?_;clear I a;refine uN w8 O ?_;clear O;intro b9 w O;refine uO 9 ?_;intro a I;refine wp_loop_ghost (fun (mm:Nat) a w=>∃(r:Nat) (l3:List (Loc Int)),Ag a 116 [(2,.pointer (some ⟨b2,0,none⟩)),(3,.pointer (some ⟨b3,0,none⟩)),(4,.pointer (some ⟨b4,0,none⟩)),(9,.pointer (some ⟨b9,0,none⟩)),(10,.int .i64 ((r:Nat):Int))]∧Sat W w ([dE 377 b9 l3,bB (l3.map (Loc.fh 3)),dE 375 b3 l1,bB (l1.map (Loc.fh 3)),dE 375 b4 l2,bB (l2.map (Loc.fh 3)),dE 377 b2 (List.replicate 16 (⟨none,0,[]⟩:Loc Int))])∧(r≤16)∧(dL l3 (wK (ps.map PL.d) r))∧mm=16-r) 16 ?_ ?_
  ·replace I:=I.kp [2,3,4,9,10] rfl;have hS0:=lq (Loc.fh 3) O (fun L' s=>s.ba 3 1) 16;have hS1:Sat W w [dE 377 b9 (List.replicate 16 (⟨none,0,[]⟩:Loc Int)),bB ((List.replicate 16 (⟨none,0,[]⟩:Loc Int)).map (Loc.fh 3)),dE 375 b3 l1,bB (l1.map (Loc.fh 3)),dE 375 b4 l2,bB (l2.map (Loc.fh 3)),dE 377 b2 (List.replicate 16 (⟨none,0,[]⟩:Loc Int))]:=hS0.p 1;exact⟨0,_,I,hS1,(by omega),(by exact kx.congr fun r hr=>by simp[wK]),by omega⟩
  intro m a w hI;clear O I;obtain⟨r,l3,I,O,hr,hT3,rfl⟩:=hI;refine rC 4 I ?_;clear I a;refine aJ 0 0 (aq rfl rfl) ?_ ?_
  ·intro h102;obtain⟨lA,lc,hl1⟩:=hT1.get (show r<16 by omega);obtain⟨mA,mc,hl2⟩:=hT2.get (show r<16 by omega);obtain⟨nA,nc,hl3⟩:=hT3.get (show r<16 by omega);have hrl:=Nat.le_trans (kG (ps.map PL.d) r) ht;refine uO 7 ?_;intro a I;refine bf [7,10] O (by kernel_rfl) ?_;replace O:=O.drew;refine rX [0,1] I ?_;clear I a;refine bF 2 [] rfl (fun w=>(iA rfl rfl fx fK)) ?_;refine cZ 3 [4] rfl (by exact⟨[],O⟩) (fun w hT=>have O:=hT.sat;(an rfl gU (gq (O.p 2) hl1))) ?_;refine bF 5 [] rfl (fun w=>(iA rfl rfl fx fK)) ?_;refine cZ 6 [] rfl (by exact⟨[],O⟩) (fun w hT=>have O:=hT.sat;(an rfl gU (gq (O.p 4) hl2))) ?_;refine bF 8 [] rfl (fun w=>(aa rfl ia)) ?_;intro a I;refine aE 7 (by kernel_rfl) ?_
   refine eF I rfl rfl HY rfl (zg _ _ _ _ _ _ _ (fU (ps.map PL.d) r) (kD (O.p 3) hl1) (kD (O.p 5) hl2) (List.length_map _) (List.length_map _) hrl) ?_;clear I a;rintro e w ⟨A112,c112,rfl,hT⟩;replace O:=O.aM hT;clear hT;refine⟨_,rfl,?_⟩;intro a I;refine⟨.inl rfl,?_⟩;refine P1 9 [] I rfl (fun w=>(fG (I.ev rfl) (I.ev rfl) fx fK (by omega) (by omega))) ?_;clear I a;intro a I;refine aE 10 (by kernel_rfl) ?_;refine Hc (i:=r) ⟨A112,c112,bI (av (fU (ps.map PL.d) r))⟩ I rfl rfl (by simp) rfl rfl gU fK (O.p 1) hl3 ?_;clear O;intro w O;refine⟨.inl rfl,?_⟩;refine ah (by kernel_rfl) ?_ _;refine rE 4 I ?_;clear I a;refine u1 2 (ad rfl rfl) ?_;intro a I;replace I:=I.kp [2,3,4,9,10] rfl;have hS2:=((O.p 2).dU (i7 hl3)).drop
   have hS3:=jQ (f:=Loc.fh 3) hl3 (l':=⟨A112,c112,bI (av (fU (ps.map PL.d) r))⟩) (((hS2.p 1).p 1).p 2);refine⟨16-(r+1),by omega,r+1,_,I,hS3.p 1,by omega,?_,rfl⟩;exact hT3.set (Dr _ _).symm fun k hk hne=>D9 hne
  ·intro h102;obtain rfl:r=16:=by omega
   refine uO 8 ?_;intro a I;replace I:=I.kp [2,9] rfl;refine rC 2 I ?_;clear I a;refine u1 0 (aG (cs:=l3.map Loc.v) rfl zR (by rw[List.length_map,hT3.1];exact qI) (lg O)) ?_;intro a I;refine Gp (ls:=l3) I rfl rfl qI hT3.1 (by simp) (O.p 6) ?_;clear O;intro w O;refine rO 3 I ?_;clear I a;intro a I;refine fY I rfl (br (cs:=l3.map Loc.v) I rfl zR (by rw[List.length_map,hT3.1];exact qI) (lg O)) ?_;exact⟨l3,rfl,hT3.congr fun r hr=>if_pos hr,gy (O.p 2)⟩
theorem pn (W:World)(p:PL)(hp:p.ok W)(hlc:p.d.ab.length≤10000000000):Calls Tryz.prog 260 #[.agg #[.slice p.va p.d.vec.length p.vc,.slice p.ca p.d.ab.length p.cc]] W fun e w'=>∃ls:List (Loc Int),e=.returned (.agg (ls.map Loc.v).toArray)∧dL ls (fun r=>bI (aP p.d r))∧Sat W w' [bB (ls.map (Loc.fh 3))]:=by
 refine bS Tryz.func260 [0] ?_;have O:=Sat.start W;refine uC 2 ?_;refine uB rfl O ?_;clear O;intro b1 w O;refine uN w8 O ?_;clear O;intro b2 w O;refine uO 4 ?_;refine u1 0 (lS (cs:=[_,_]) rfl) ?_;intro a I;refine gF (vss:=[[_,_]]) I rfl rfl fF qo rfl rfl rfl (by simp) rfl O ?_;clear I a O;intro A4 w O;refine uF rfl (Bk _ _ _ [p] O.rd (fun q hq=>by simp at hq;subst hq;exact hp.sat O) (by simp) (by simp[dm];omega)) ?_;rintro e w ⟨ls,rfl,hT0,hT⟩;replace O:=O.aM hT;clear hT;have hT1:dL ls (fun r=>bI (aP p.d r)):=hT0.congr fun r hr=>(by simp[fU,aP])
 intro a I;refine Gp (ls:=ls) (cs:=((List.replicate 16 (⟨none,0,[]⟩:Loc Int)).map Loc.v)) I rfl rfl qI hT1.1 (by simp) (O.p 2) ?_;clear O;intro w O;refine rO 3 I ?_;clear I a;intro a I;refine fY I rfl (br (cs:=ls.map Loc.v) I rfl zR (by rw[List.length_map,hT1.1];exact qI) (lg O)) ?_;exact⟨ls,rfl,hT1,gy O.qN⟩
theorem tN (W:World)(ls:List (Loc Int))(f:Nat→List bA)(hT:dL ls (fun r=>bI (f r)))(hc:∀r,can (f r))(hR:∀(r:Nat) (l:Loc Int),ls[r]?=some l→kY W l.a l.c l.xs)(hb:∀r,r<16→(f r).length≤100000000000):Calls Tryz.prog 259 #[.agg (ls.map Loc.v).toArray] W fun e w'=>∃q:PL,e=.returned (.agg #[.slice q.va q.d.vec.length q.vc,.slice q.ca q.d.ab.length q.cc])∧q.d=fR f∧Sat W w' [cq 3 q.va q.vc q.d.vec,bp 219 q.ca q.cc q.d.ab]:=by
 refine bS Tryz.func259 [0] ?_;have O:=Sat.start W;refine uC 2 ?_;refine uB rfl O ?_;clear O;intro b1 w O;refine uN cY O ?_;clear O;intro b2 w O;refine uO 4 ?_;refine uN cY O ?_;clear O;intro b3 w O;refine uO 4 ?_;intro a I;refine Kh I rfl rfl rfl ax iU rfl (by decide) (by decide) O ?_;clear I a O;intro b8 w O;refine uO 15 ?_;intro a I
 refine wp_loop_ghost (fun (mm:Nat) a w=>∃(r:Nat) (Ac:Option Addr) (cc:Nat),Ag a 73 [(1,.pointer (some ⟨b1,0,none⟩)),(2,.pointer (some ⟨b2,0,none⟩)),(3,.pointer (some ⟨b3,0,none⟩)),(4,.slice (some ⟨b8,0,none⟩) 16 16),(5,.int .i64 (((cJ (bw f) r):Nat):Int)),(6,.int .i64 ((r:Nat):Int))]∧Sat W w ([dE 377 b1 ls,a6 b3 (.cells #[.slice none 0 0,.slice Ac (((List.range r).flatMap (aR f))).length cc] 63),bp 219 Ac cc ((List.range r).flatMap (aR f)),a6 b8 (.cells (((List.range r).map (bw f)++List.replicate (16-r) 0).map (Value.int .i64)).toArray 3 (0,0)),a6 b2 (.cells #[.slice none 0 0,.slice none 0 0] 63)])∧(r≤16)∧mm=16-r) 16 ?_ ?_
 ·replace I:=I.kp [1,2,3,4,5,6] rfl;have hS1:Sat W w [dE 377 b1 ls,a6 b3 (.cells #[.slice none 0 0,.slice none ((List.range 0).flatMap (aR f)).length 0] 63),bp 219 none 0 ((List.range 0).flatMap (aR f)),a6 b8 (.cells (((List.range 0).map (bw f)++List.replicate (16-0) 0).map (Value.int .i64)).toArray 3 (0,0)),a6 b2 (.cells #[.slice none 0 0,.slice none 0 0] 63)]:=((((((O.ba 219 3).p 3).p 2).p 2).p 3).p 4);exact⟨0,none,0,I,hS1,(by omega),by omega⟩
 intro m a w hI;clear O I;obtain⟨r,Ac,cc,I,O,hr,rfl⟩:=hI;refine rC 4 I ?_;clear I a;refine aJ 0 0 (aq rfl rfl) ?_ ?_
 ·intro h10;obtain⟨lA,lc,hl⟩:=hT.get (show r<16 by omega);have hrd:kY W lA lc (bI (f r)):=hR r _ hl;have hcr:=hc r;have hbr:=hb r (by omega);have hpl:=jY (f r);have hcl:=rF hb r (by omega);refine uO 13 ?_;intro a I
  refine wp_loop_ghost (fun (mm:Nat) a w=>∃(q sz:Nat) (Ac:Option Addr) (cc:Nat),Ag a 73 [(1,.pointer (some ⟨b1,0,none⟩)),(2,.pointer (some ⟨b2,0,none⟩)),(3,.pointer (some ⟨b3,0,none⟩)),(4,.slice (some ⟨b8,0,none⟩) 16 16),(5,.int .i64 ((sz:Nat):Int)),(6,.int .i64 ((r:Nat):Int)),(7,.int .i64 (((2 * q):Nat):Int))]∧Sat W w ([dE 377 b1 ls,a6 b3 (.cells #[.slice none 0 0,.slice Ac ((((List.range r).flatMap (aR f))++(aX ((f r).take q)).2.map (j5 r))).length cc] 63),bp 219 Ac cc (((List.range r).flatMap (aR f))++(aX ((f r).take q)).2.map (j5 r)),a6 b8 (.cells (j9 (bw f) r (aX ((f r).take q)).1).toArray 3 (0,0)),a6 b2 (.cells #[.slice none 0 0,.slice none 0 0] 63)])∧(q≤(f r).length)∧(sz=if 0<(aX ((f r).take q)).1 then r+1 else cJ (bw f) r)∧mm=(f r).length-q) (f r).length ?_ ?_
  ·replace I:=I.kp [1,2,3,4,5,6,7] rfl;rw[yL (f:=(bw f)) (by omega)]at O
   have hS1:Sat W w [dE 377 b1 ls,a6 b3 (.cells #[.slice none 0 0,.slice Ac ((((List.range r).flatMap (aR f))++(aX ((f r).take 0)).2.map (j5 r))).length cc] 63),bp 219 Ac cc (((List.range r).flatMap (aR f))++(aX ((f r).take 0)).2.map (j5 r)),a6 b8 (.cells (j9 (bw f) r (aX ((f r).take 0)).1).toArray 3 (0,0)),a6 b2 (.cells #[.slice none 0 0,.slice none 0 0] 63)]:=by
    rw[List.take_zero,show (aX []).2=[] from rfl,List.map_nil,List.append_nil];exact O
   exact⟨0,(cJ (bw f) r),Ac,cc,I,hS1,(by omega),(by rfl),by omega⟩
  intro m a w hI;clear O I;obtain⟨q,sz,Ac,cc,I,O,hq,hsz,rfl⟩:=hI;refine rC 4 I ?_;clear I a;refine u1 1 (ad rfl rfl) ?_;refine u1 0 (aa rfl ia) ?_;refine u1 0 (iA rfl rfl fx fK) ?_;refine u1 0 (an rfl gU (jM O hl)) ?_;refine u1 0 (ak rfl ax) ?_;refine aJ 0 0 (aq rfl rfl) ?_ ?_
  ·intro h20;obtain⟨x,hx⟩:∃x,(f r)[q]?=some x:=⟨_,List.getElem?_eq_getElem (by omega)⟩;obtain⟨hx1,hx2⟩:=w7 hx;have hxe:=hcr.each x (List.mem_of_getElem? hx);intro a I;rw[dM]at hxe;have hgl:=lU ((f r).take q);rw[List.length_take]at hgl;have hcl2:(((List.range r).flatMap (aR f))++(aX ((f r).take q)).2.map (j5 r)).length≤r * 100000000000+q:=by rw[List.length_append,List.length_map];omega
   refine rO 10 I ?_;clear I a;refine u1 0 (aa rfl ia) ?_;refine u1 0 (iA rfl rfl fx fK) ?_;refine u1 1 (an rfl gU (jM O hl)) ?_;obtain⟨lA_p,rfl⟩:∃q,lA=some q:=(hrd.sat O).au (by omega);refine u1 0 (ix rfl rfl ax eP) ?_;refine u1 0 (an rfl dA (fP (hrd.sat O) (bu hx1))) ?_;refine aJ 0 0 (aU rfl rfl) ?_ ?_
   ·intro h30;refine uO 8 ?_;refine u1 0 (aa rfl ia) ?_;refine u1 0 (iA rfl rfl fx fK) ?_;refine u1 1 (an rfl gU (jM O hl)) ?_;refine u1 0 (ad rfl rfl) ?_;refine u1 0 (ix rfl rfl ax eP) ?_;refine u1 0 (an rfl dA (fP (hrd.sat O) (bu hx2))) ?_;refine u1 0 (sb rfl rfl) ?_;refine u1 0 (ix rfl rfl ax eP) ?_;intro a I;refine I0 (j:=r) I rfl (by rw[add_lit];simp) rfl dA eP rfl (O.p 3) (Bw _) ?_;clear O;intro w O;rw[AL]at O;refine rO 4 I ?_;clear I a;refine u1 6 (ad rfl rfl) ?_;refine u1 2 (ad rfl rfl) ?_;intro a I;replace I:=I.kp [1,2,3,4,5,6,7] rfl;have hcg:=yQ hcr (q+1);rw[aF hx]at hcg;have els:=xk hcg;rw[←aF hx]at els;rw[if_pos h30]at els;have e1:(aX ((f r).take (q+1))).1=x.2:=by rw[els]
    have h0:(f r).take q=[]:=by
     cases hg:(f r).take q with
     | nil=>rfl
     | cons y t=>rw[hg]at hcg;have:=hcg.2.2.2.1 x (by simp);have:=hcg.1;have:=hcg.2.1;omega
    have e2:(aX ((f r).take (q+1))).2=(aX ((f r).take q)).2:=by rw[els,h0];rfl
    refine⟨(f r).length-(q+1),by omega,q+1,r+1,Ac,cc,?_,?_,by omega,?_,rfl⟩
    ·exact I
    ·rw[e1,e2,show x.2=x.2+1-1 from by omega];exact (((O.p 3).p 3).p 3)
    ·rw[e1,if_pos (by have:=hcr.each x (List.mem_of_getElem? hx);omega)]
   ·intro h30;refine uO 3 ?_;intro a I;refine bf [21,23] O (by kernel_rfl) ?_;replace O:=O.drew;refine P1 0 [] I rfl (fun w=>(aa (I.ev rfl) cd)) ?_;clear I a
    refine cZ 1 [2,3] rfl (by exact⟨[],O⟩) (fun w hT=>have O:=hT.sat;(ld rfl)) ?_;refine bF 4 [] rfl (fun w=>(aa rfl ia)) ?_;refine bF 5 [] rfl (fun w=>(iA rfl rfl fx fK)) ?_;refine cZ 6 [7] rfl (by exact⟨[],O⟩) (fun w hT=>have O:=hT.sat;(an rfl gU (jM O hl))) ?_;refine bF 8 [] rfl (fun w=>(ix rfl rfl ax eP)) ?_;refine cZ 9 [10] rfl (by exact⟨[],O⟩) (fun w hT=>have O:=hT.sat;(an rfl dA (fP (hrd.sat O) (bu hx1)))) ?_;refine bF 11 [] rfl (fun w=>(aa rfl ia)) ?_;refine bF 12 [] rfl (fun w=>(iA rfl rfl fx fK)) ?_;refine cZ 13 [14] rfl (by exact⟨[],O⟩) (fun w hT=>have O:=hT.sat;(an rfl gU (jM O hl))) ?_;refine bF 15 [] rfl (fun w=>(ad rfl rfl)) ?_;refine bF 16 [] rfl (fun w=>(ix rfl rfl ax eP)) ?_;refine cZ 17 [] rfl (by exact⟨[],O⟩) (fun w hT=>have O:=hT.sat;(an rfl dA (fP (hrd.sat O) (bu hx2)))) ?_;refine bF 18 [] rfl (fun w=>(sb rfl rfl)) ?_
    intro a I;refine P1 19 [] I rfl (fun w=>(ar I rfl iw)) ?_;clear I a;intro a I;refine aE 20 (by kernel_rfl) ?_;refine xP (vss:=[[_,_,_]]) I rfl rfl rfl dt nT rfl rfl rfl (by simp) rfl O ?_;clear I a O;intro A65 w O;intro a I;refine⟨.inr fun _=>(by exact⟨[_],O⟩),?_⟩;refine aE 21 (by kernel_rfl) ?_;refine eA I rfl rfl rfl rfl dt nT rfl (O.p 3) (O.rd.src dt (by simp[Value.oneCell'])) (by omega) (by omega) ?_;clear I a O;intro A66 c66 w hc66 O;intro a I;refine⟨.inl rfl,?_⟩;refine P1 22 [] I rfl (fun w=>(aa (I.ev rfl) cd)) ?_;clear I a;intro a I;refine aE 23 (by kernel_rfl) ?_;refine HP (cs':=[_,_]) I rfl rfl rfl we C4 rfl (O.p 3) rfl rfl ?_;clear O;intro w O;refine⟨.inl rfl,?_⟩;refine ah (by kernel_rfl) ?_ _;refine rE 4 I ?_;clear I a;refine u1 2 (ad rfl rfl) ?_;intro a I
    replace I:=I.kp [1,2,3,4,5,6,7] rfl;have hcg:=yQ hcr (q+1);rw[aF hx]at hcg;have els:=xk hcg;rw[←aF hx]at els;rw[if_neg h30]at els;have e1:(aX ((f r).take (q+1))).1=(aX ((f r).take q)).1:=by rw[els]
    have e2:(((List.range r).flatMap (aR f))++(aX ((f r).take q)).2.map (j5 r))++[j5 r x]=((List.range r).flatMap (aR f))++(aX ((f r).take (q+1))).2.map (j5 r):=by rw[els,List.map_append,List.append_assoc];rfl
    have el:(((List.range r).flatMap (aR f))++(aX ((f r).take q)).2.map (j5 r)).length+1=(((List.range r).flatMap (aR f))++(aX ((f r).take (q+1))).2.map (j5 r)).length:=by rw[←e2,List.length_append (bs:=[j5 r x])];rfl
    have hS2:=fQ (O.p 1) (m:=(((List.range r).flatMap (aR f))++(aX ((f r).take (q+1))).2.map (j5 r)).length) (cs':=(((List.range r).flatMap (aR f))++(aX ((f r).take (q+1))).2.map (j5 r)).flatMap gH) el (by rw[←e2,List.flatMap_append];simp[gH,j5]);rw[el]at hS2;refine⟨(f r).length-(q+1),by omega,q+1,sz,A66,c66,I,?_,by omega,by rw[e1];exact hsz,rfl⟩;rw[e1];exact (((((hS2.p 5).p 5).p 2).p 3).p 5).cw [_,_,_,_,_]
  ·intro h20;refine uO 11 ?_;refine u1 2 (ad rfl rfl) ?_;intro a I;replace I:=I.kp [1,2,3,4,5,6] rfl;have eg:(f r).take q=f r:=List.take_of_length_le (by omega);have ec:(((List.range r).flatMap (aR f))++(aX ((f r).take q)).2.map (j5 r))=(List.range (r+1)).flatMap (aR f):=by rw[mO,rS,eg]
   have ev:(j9 (bw f) r (aX ((f r).take q)).1)=((List.range (r+1)).map (bw f)++List.replicate (16-(r+1)) 0).map (Value.int .i64):=by rw[eg];exact AZ (f:=(bw f)) (by omega)
   have es:sz=cJ (bw f) (r+1):=by rw[hsz,eg];rfl
   rw[ec,ev]at O;rw[es]at I;exact⟨16-(r+1),by omega,r+1,Ac,cc,I,O,by omega,rfl⟩
 ·intro h10;obtain rfl:r=16:=by omega
  have hsz16:=mP (bw f) 16;refine uO 12 ?_;refine u1 0 (aw (mz rfl rfl ax eP (by omega) (by omega)) (show _=Value.slice (some ⟨b8,0,none⟩) (cJ (bw f) 16) 16 from by rw[sB];rfl)) ?_;refine u1 0 (aa rfl cD) ?_;intro a I;refine fS (cs':=[_,_]) I rfl rfl gU fK rfl (O.p 1) rfl rfl ?_;clear O;intro w O;refine rO 2 I ?_;clear I a;intro a I;replace I:=I.kp [2,3] rfl;refine rC 2 I ?_;clear I a;refine u1 0 (lS (cs:=[_,_]) rfl) ?_;refine uW (vs:=[_,_]) (cs':=[_,_]) rfl rfl aO (O.p 4) ?_;clear O;intro w O;refine uO 3 ?_;intro a I;refine fY I rfl (br (cs:=[_,_]) I rfl cS aO (by exact O.ao (xs:=[_,_]) rfl)) ?_;have hS2:=((O.p 4).GI (m:=16) (BY (Nat.le_refl _)) (by decide)).shrink hsz16 (by simp);rw[Nat.mul_one,yO hsz16]at hS2
  refine⟨⟨some ⟨b8,0,none⟩,16,Ac,cc,fR f⟩,by simp[fR],rfl,?_⟩;have hS3:=fQ hS2 (m:=((List.range (cJ (bw f) 16)).map (bw f)).length) (by simp) rfl;exact n5 ((hS3.p 4).p 1)
theorem l8 (W:World)(p:PL)(hp:p.ok W)(hlc:p.d.ab.length≤10000000000):Calls Tryz.prog 227 #[.agg #[.slice p.va p.d.vec.length p.vc,.slice p.ca p.d.ab.length p.cc]] W fun e w'=>∃q:PL,e=.returned (.agg #[.slice q.va q.d.vec.length q.vc,.slice q.ca q.d.ab.length q.cc])∧q.d=gS p.d∧Sat W w' [cq 3 q.va q.vc q.d.vec,bp 219 q.ca q.cc q.d.ab]:=by
 refine bS Tryz.func227 [0] ?_;have O:=Sat.start W;refine uC 2 ?_;refine uB rfl O ?_;clear O;intro b1 w O;refine uN cY O ?_;clear O;intro b2 w O;refine uO 4 ?_;refine u1 0 (lS (cs:=[_,_]) rfl) ?_;refine uF rfl (pn _ p (hp.sat O) hlc) ?_;rintro e w ⟨ls,rfl,hT1,hT⟩;replace O:=O.aM hT;clear hT;refine uF rfl (tN _ ls (aP p.d) hT1 (bG p.d) (fun r l h=>kD O h) (fun r hr=>by have:=cK (cR p.d r);have:=eC p.d r;unfold aP;omega)) ?_;rintro e w ⟨q,rfl,hq,hT⟩;replace O:Sat _ _ (_::_::_):=O.ag hT;clear hT;refine uW (vs:=[_,_]) (cs':=[_,_]) rfl rfl aO (O.p 3) ?_;clear O;intro w O;refine uO 3 ?_;intro a I;refine fY I rfl (br (cs:=[_,_]) I rfl cS aO (by exact O.ao (xs:=[_,_]) rfl)) ?_;exact⟨q,rfl,hq,n5 ((O.p 2).p 2)⟩
theorem nn (W:World)(r n:Int)  : Calls Tryz.prog 263 #[.agg #[.int .i64 r,.int .i64 n]] W fun e w'=>e=.returned (.bool (dK r n))∧Sat W w' []:=by
 refine bS Tryz.func263 [0] ?_;have O:=Sat.start W;refine uC 2 ?_;refine uB rfl O ?_;clear O;intro b1 w O;refine uO 5 ?_;refine u1 0 (aa rfl bM) ?_;refine u1 0 (ld rfl) ?_;refine aJ 0 0 (dF rfl rfl) ?_ ?_
 ·intro h5;refine uO 1 ?_;refine u1 0 (aa rfl bM) ?_;refine u1 0 (ld rfl) ?_;refine aJ 0 0 (aq rfl rfl) ?_ ?_
  ·intro h9;refine uO 2 ?_;refine u1 0 (aa rfl bX) ?_;refine u1 0 (ld rfl) ?_;refine aJ 0 0 (dF rfl rfl) ?_ ?_
   ·intro h14;refine uO 2 ?_;refine u1 0 (aa rfl bX) ?_;refine u1 0 (ld rfl) ?_;refine u1 5 (dD rfl rfl) ?_;refine aY ?_;refine⟨?_,O.nil⟩;unfold dK
    congr 2
    rw[Bool.eq_iff_iff];simp only[Bool.and_eq_true,decide_eq_true_eq,Bool.false_eq_true,false_iff];omega
   ·intro h14;refine uO 10 ?_;refine aY ?_;refine⟨?_,O.nil⟩;unfold dK
    congr 2
    rw[Bool.eq_iff_iff];simp only[Bool.and_eq_true,decide_eq_true_eq,Bool.false_eq_true,false_iff];omega
  ·intro h9;refine uO 15 ?_;refine aY ?_;refine⟨?_,O.nil⟩;unfold dK
   congr 2
   rw[Bool.eq_iff_iff];simp only[Bool.and_eq_true,decide_eq_true_eq,Bool.false_eq_true,false_iff];omega
 ·intro h5;refine uO 19 ?_;refine aY ?_;refine⟨?_,O.nil⟩;unfold dK
  congr 2
  rw[Bool.eq_iff_iff];simp only[Bool.and_eq_true,decide_eq_true_eq,Bool.false_eq_true,false_iff];omega
theorem gb (W:World)(x y:Int)  : Calls Tryz.prog 281 #[.int .i64 x,.int .i64 y] W fun e w'=>e=.returned (.int .i64 (gf x y))∧Sat W w' []:=by
 refine bS Tryz.func281 [0,1] ?_;have O:=Sat.start W;refine uC 10 ?_;refine aJ 0 0 (aq rfl rfl) ?_ ?_
 ·intro h7;refine uO 10 ?_;refine aY ?_;refine⟨?_,O⟩;unfold gf
  (repeat' split)<;>rfl
 ·intro h7;refine uO 10 ?_;refine aJ 0 0 (cG rfl rfl) ?_ ?_
  ·intro h10;refine uO 10 ?_;refine aY ?_;refine⟨?_,O⟩;unfold gf
   (repeat' split)<;>first | rfl | omega
  ·intro h10;refine uO 11 ?_;refine aY ?_;refine⟨?_,O⟩;unfold gf
   (repeat' split)<;>first | rfl | omega
theorem vU (W:World)(p:PL)(r n:Int)(hp:p.ok W)(hlv:p.d.vec.length≤1000000000000)(hlc:p.d.ab.length≤1000000000000):Calls Tryz.prog 271 #[.agg #[.slice p.va p.d.vec.length p.vc,.slice p.ca p.d.ab.length p.cc],.agg #[.int .i64 r,.int .i64 n]] W fun e w'=>e=.returned (.bool (hasB p.d r n))∧Sat W w' []:=by
 refine bS Tryz.func271 [0,1] ?_;have O:=Sat.start W;obtain⟨va,vc,ca,cc,d⟩:=p;have hpv:kY W va vc d.vec:=hp.vec;have hpc:jk W ca cc d.ab:=hp.ab;intro a I;dsimp only at hlv hlc I ⊢;refine rC 2 I ?_;clear I a;refine uB rfl O ?_;clear O;intro b2 w O;refine uB rfl O ?_;clear O;intro b3 w O;refine uO 6 ?_;refine u1 0 (lS (cs:=[_,_]) rfl) ?_;refine uF rfl (nn _ r n) ?_;rintro e w ⟨rfl,hT⟩;replace O:Sat _ _ _:=O.ag hT;clear hT;generalize h8:(dK r n)=bb;cases bb
 ·refine u1 10 (aB rfl) ?_;refine aY ?_;refine⟨?_,O.nil⟩;rw[hasB,h8];rfl
 ·refine u1 7 (aB rfl) ?_;intro a I;refine cF (fun w'=>Sat _ w' _) (by kernel_rfl) (by kernel_rfl) O.drew ?_;refine Q1 0 I (fun w O=>(aa (I.ev rfl) bM)) ?_;clear I a;refine bj 0 (fun w O=>(ld rfl)) ?_;refine bj 0 (fun w O=>(aa rfl cD)) ?_;refine bj 0 (fun w O=>(ld rfl)) ?_;refine bj 0 (fun w O=>(ak rfl ax)) ?_;intro a I;refine K.sE I rfl rfl rfl (fun w O=>(aq (I.ev rfl) (I.ev rfl))) ?_ ?_
  ·clear I a;intro h15;have hdot:=h8;intro a I;unfold dK at hdot;simp only[Bool.and_eq_true,decide_eq_true_eq]at hdot;refine rQ 1 I ?_;clear I a;refine bj 0 (fun w O=>(aa rfl bX)) ?_;refine bj 0 (fun w O=>(ld rfl)) ?_;refine bj 0 (fun w O=>(aa rfl cD)) ?_;refine bj 0 (fun w O=>(ld rfl)) ?_;refine bj 0 (fun w O=>(aa rfl bM)) ?_;refine bj 0 (fun w O=>(ld rfl)) ?_;obtain⟨va_p,rfl⟩:∃q,va=some q:=(hpv.sat O).au (by omega);obtain⟨v,hv⟩:∃zz_,d.vec[r.toNat]?=some zz_:=⟨_,List.getElem?_eq_getElem (by omega)⟩;refine bj 0 (fun w O=>(ix rfl rfl ax eP)) ?_;refine bj 0 (fun w O=>(an rfl dA (fP (hpv.sat O) (bu hv)))) ?_;intro a I;refine K.oU I (aT I rfl rfl rfl) rfl rfl (fun w O=>(dD (I.ev rfl) (I.ev rfl))) ?_ ?_
   ·clear I a;intro h25;refine uQ 1 ?_;intro a I;refine wpQuiet_nil ?_;clear O;intro w O;refine rE 9 I ?_;clear I a;refine aY ?_;have hv2:iy d.vec r n=true:=by unfold iy;rw[hv];simp;omega
    refine⟨?_,O.nil⟩;rw[hasB,h8,hv2];simp
   ·clear I a;intro h25;refine uQ 1 ?_;intro a I;refine wpQuiet_nil ?_;clear O;intro w O;refine rE 11 I ?_;clear I a;intro a I;refine wp_loop_ghost (fun (mm:Nat) a w=>∃(k:Nat),Ag a 58 [(2,.pointer (some ⟨b2,0,none⟩)),(3,.pointer (some ⟨b3,0,none⟩)),(5,.int .i64 ((k:Nat):Int))]∧Sat W w ([a6 b3 (.cells #[.int .i64 r,.int .i64 n] 214),a6 b2 (.cells #[.slice (some va_p) d.vec.length vc,.slice ca d.ab.length cc] 63)])∧(k≤d.ab.length)∧((d.ab.take k).any (fun s=>th s r n)=false)∧mm=d.ab.length-k) d.ab.length ?_ ?_
    ·replace I:=I.kp [2,3,5] rfl;exact⟨0,I,O,(by omega),(by rfl),by omega⟩
    intro m a w hI;clear O I;obtain⟨k,I,O,hk,he,rfl⟩:=hI;refine rC 4 I ?_;clear I a;refine u1 0 (aa rfl cd) ?_;refine u1 0 (ld rfl) ?_;refine u1 0 (ak rfl dt) ?_;refine aJ 0 0 (aq rfl rfl) ?_ ?_
    ·intro h31;refine uO 9 ?_;refine u1 0 (aa rfl cd) ?_;refine u1 1 (ld rfl) ?_;obtain⟨ca_p,rfl⟩:∃q,ca=some q:=(hpc.sat O).au (by omega);obtain⟨s,hs⟩:∃zz_,d.ab[k]?=some zz_:=⟨_,List.getElem?_eq_getElem (by omega)⟩;refine u1 0 (ix rfl rfl dt cX) ?_;refine u1 0 (aG (cs:=gH s) rfl lr cX (fun j u e=>bQ (hpc.sat O) (dQ hs j u e))) ?_;refine uN nK O ?_;clear O;intro b6 w O;refine uW (vs:=[_,_,_]) (cs':=[_,_,_]) rfl rfl cX O ?_;clear O;intro w O;refine uO 4 ?_;refine u1 0 (aa rfl cj) ?_;refine u1 0 (ld rfl) ?_;refine u1 0 (aa rfl bM) ?_;refine u1 0 (ld rfl) ?_;refine aJ 0 0 (aU rfl rfl) ?_ ?_
     ·intro h43;refine uO 1 ?_;refine u1 0 (aa rfl eQ) ?_;refine u1 0 (ld rfl) ?_;refine u1 0 (aa rfl bX) ?_;refine u1 0 (ld rfl) ?_;refine aJ 0 0 (dD rfl rfl) ?_ ?_
      ·intro h49;refine uO 2 ?_;refine u1 0 (aa rfl bX) ?_;refine u1 0 (ld rfl) ?_;refine u1 0 (aa rfl eE) ?_;refine u1 0 (ld rfl) ?_;refine aJ 0 0 (dD rfl rfl) ?_ ?_
       ·intro h56;refine uO 15 ?_;refine aY ?_;have hv2:iy d.vec r n=false:=by unfold iy;rw[hv];simp;omega
        have hsp:th s r n=true:=by unfold th;simp only[Bool.and_eq_true,decide_eq_true_eq];omega
        have hic:kC d.ab r n=true:=by rw[iQ];exact List.any_eq_true.2 ⟨s,List.mem_of_getElem? hs,hsp⟩
        refine⟨?_,O.nil⟩;rw[hasB,h8,hic];simp
       ·intro h56;refine uO 9 ?_;refine u1 2 (ad rfl rfl) ?_;intro a I;replace I:=I.kp [2,3,5] rfl;have hsp:th s r n=false:=by unfold th;rw[Bool.eq_false_iff];simp only[ne_eq,Bool.and_eq_true,decide_eq_true_eq];omega
        refine⟨d.ab.length-(k+1),by omega,k+1,I,O.drop,by omega,?_,rfl⟩;rw[aF hs,List.any_append,he];simp[hsp]
      ·intro h49;refine uO 16 ?_;refine u1 2 (ad rfl rfl) ?_;intro a I;replace I:=I.kp [2,3,5] rfl;have hsp:th s r n=false:=by unfold th;rw[Bool.eq_false_iff];simp only[ne_eq,Bool.and_eq_true,decide_eq_true_eq];omega
       refine⟨d.ab.length-(k+1),by omega,k+1,I,O.drop,by omega,?_,rfl⟩;rw[aF hs,List.any_append,he];simp[hsp]
     ·intro h43;refine uO 22 ?_;refine u1 2 (ad rfl rfl) ?_;intro a I;replace I:=I.kp [2,3,5] rfl;have hsp:th s r n=false:=by unfold th;rw[Bool.eq_false_iff];simp only[ne_eq,Bool.and_eq_true,decide_eq_true_eq];omega
      refine⟨d.ab.length-(k+1),by omega,k+1,I,O.drop,by omega,?_,rfl⟩;rw[aF hs,List.any_append,he];simp[hsp]
    ·intro h31;refine uO 8 ?_;intro a I;replace I:=I.kp [] rfl;refine rC 6 I ?_;clear I a;refine aY ?_;have hv2:iy d.vec r n=false:=by unfold iy;rw[hv];simp;omega
     rw[List.take_of_length_le (by omega)]at he;refine⟨?_,O.nil⟩;rw[hasB,h8,hv2,iQ,he];rfl
  ·clear I a;intro h15;refine uQ 11 ?_;intro a I;refine wpQuiet_nil ?_;clear O;intro w O;refine rE 11 I ?_;clear I a;intro a I;refine wp_loop_ghost (fun (mm:Nat) a w=>∃(k:Nat),Ag a 58 [(2,.pointer (some ⟨b2,0,none⟩)),(3,.pointer (some ⟨b3,0,none⟩)),(5,.int .i64 ((k:Nat):Int))]∧Sat W w ([a6 b3 (.cells #[.int .i64 r,.int .i64 n] 214),a6 b2 (.cells #[.slice va d.vec.length vc,.slice ca d.ab.length cc] 63)])∧(k≤d.ab.length)∧((d.ab.take k).any (fun s=>th s r n)=false)∧mm=d.ab.length-k) d.ab.length ?_ ?_
   ·replace I:=I.kp [2,3,5] rfl;exact⟨0,I,O,(by omega),(by rfl),by omega⟩
   intro m a w hI;clear O I;obtain⟨k,I,O,hk,he,rfl⟩:=hI;refine rC 4 I ?_;clear I a;refine u1 0 (aa rfl cd) ?_;refine u1 0 (ld rfl) ?_;refine u1 0 (ak rfl dt) ?_;refine aJ 0 0 (aq rfl rfl) ?_ ?_
   ·intro h31;refine uO 9 ?_;refine u1 0 (aa rfl cd) ?_;refine u1 1 (ld rfl) ?_;obtain⟨ca_p,rfl⟩:∃q,ca=some q:=(hpc.sat O).au (by omega);obtain⟨s,hs⟩:∃zz_,d.ab[k]?=some zz_:=⟨_,List.getElem?_eq_getElem (by omega)⟩;refine u1 0 (ix rfl rfl dt cX) ?_;refine u1 0 (aG (cs:=gH s) rfl lr cX (fun j u e=>bQ (hpc.sat O) (dQ hs j u e))) ?_;refine uN nK O ?_;clear O;intro b6 w O;refine uW (vs:=[_,_,_]) (cs':=[_,_,_]) rfl rfl cX O ?_;clear O;intro w O;refine uO 4 ?_;refine u1 0 (aa rfl cj) ?_;refine u1 0 (ld rfl) ?_;refine u1 0 (aa rfl bM) ?_;refine u1 0 (ld rfl) ?_;refine aJ 0 0 (aU rfl rfl) ?_ ?_
    ·intro h43;refine uO 1 ?_;refine u1 0 (aa rfl eQ) ?_;refine u1 0 (ld rfl) ?_;refine u1 0 (aa rfl bX) ?_;refine u1 0 (ld rfl) ?_;refine aJ 0 0 (dD rfl rfl) ?_ ?_
     ·intro h49;refine uO 2 ?_;refine u1 0 (aa rfl bX) ?_;refine u1 0 (ld rfl) ?_;refine u1 0 (aa rfl eE) ?_;refine u1 0 (ld rfl) ?_;refine aJ 0 0 (dD rfl rfl) ?_ ?_
      ·intro h56;refine uO 15 ?_;refine aY ?_;have hv2:iy d.vec r n=false:=by unfold iy;rw[List.getElem?_eq_none (by omega)]
       have hsp:th s r n=true:=by unfold th;simp only[Bool.and_eq_true,decide_eq_true_eq];omega
       have hic:kC d.ab r n=true:=by rw[iQ];exact List.any_eq_true.2 ⟨s,List.mem_of_getElem? hs,hsp⟩
       refine⟨?_,O.nil⟩;rw[hasB,h8,hic];simp
      ·intro h56;refine uO 9 ?_;refine u1 2 (ad rfl rfl) ?_;intro a I;replace I:=I.kp [2,3,5] rfl;have hsp:th s r n=false:=by unfold th;rw[Bool.eq_false_iff];simp only[ne_eq,Bool.and_eq_true,decide_eq_true_eq];omega
       refine⟨d.ab.length-(k+1),by omega,k+1,I,O.drop,by omega,?_,rfl⟩;rw[aF hs,List.any_append,he];simp[hsp]
     ·intro h49;refine uO 16 ?_;refine u1 2 (ad rfl rfl) ?_;intro a I;replace I:=I.kp [2,3,5] rfl;have hsp:th s r n=false:=by unfold th;rw[Bool.eq_false_iff];simp only[ne_eq,Bool.and_eq_true,decide_eq_true_eq];omega
      refine⟨d.ab.length-(k+1),by omega,k+1,I,O.drop,by omega,?_,rfl⟩;rw[aF hs,List.any_append,he];simp[hsp]
    ·intro h43;refine uO 22 ?_;refine u1 2 (ad rfl rfl) ?_;intro a I;replace I:=I.kp [2,3,5] rfl;have hsp:th s r n=false:=by unfold th;rw[Bool.eq_false_iff];simp only[ne_eq,Bool.and_eq_true,decide_eq_true_eq];omega
     refine⟨d.ab.length-(k+1),by omega,k+1,I,O.drop,by omega,?_,rfl⟩;rw[aF hs,List.any_append,he];simp[hsp]
   ·intro h31;refine uO 8 ?_;intro a I;replace I:=I.kp [] rfl;refine rC 6 I ?_;clear I a;refine aY ?_;have hv2:iy d.vec r n=false:=by unfold iy;rw[List.getElem?_eq_none (by omega)]
    rw[List.take_of_length_le (by omega)]at he;refine⟨?_,O.nil⟩;rw[hasB,h8,hv2,iQ,he];rfl
theorem qh (W:World)(p q:PL)(hp:p.ok W)(hq:q.ok W)(hl1:p.d.vec.length≤1000000000000)(hl2:p.d.ab.length≤1000000000000)(hl3:q.d.vec.length≤1000000000000)(hl4:q.d.ab.length≤1000000000000):Calls Tryz.prog 106 #[.agg #[.slice p.va p.d.vec.length p.vc,.slice p.ca p.d.ab.length p.cc],.agg #[.slice q.va q.d.vec.length q.vc,.slice q.ca q.d.ab.length q.cc]] W fun e w'=>e=.returned (.bool (decide (p.d=q.d)))∧Sat W w' []:=by
 refine bS Tryz.func106 [0,1] ?_;have O:=Sat.start W;obtain⟨va,vc,ca,cc,d⟩:=p;have hpv:kY W va vc d.vec:=hp.vec;have hpc:jk W ca cc d.ab:=hp.ab;obtain⟨ua,uc,ea,ec,d2⟩:=q;have hqv:kY W ua uc d2.vec:=hq.vec;have hqc:jk W ea ec d2.ab:=hq.ab;intro a I;dsimp only at hl1 hl2 hl3 hl4 I ⊢;refine rC 2 I ?_;clear I a;refine uB rfl O ?_;clear O;intro b2 w O;refine uB rfl O ?_;clear O;intro b3 w O;refine uO 6 ?_;refine u1 0 (aa rfl cD) ?_;refine u1 0 (ld rfl) ?_;refine u1 0 (ak rfl ax) ?_;refine u1 0 (aa rfl cD) ?_;refine u1 0 (ld rfl) ?_;refine u1 0 (ak rfl ax) ?_;refine aJ 0 0 (aD rfl rfl) ?_ ?_
 ·intro h13;refine uO 19 ?_;refine aY ?_;refine⟨?_,O.nil⟩;rw[decide_eq_false];intro h;rw[h]at h13;omega
 ·intro h13;refine uO 1 ?_;refine u1 0 (aa rfl cd) ?_;refine u1 0 (ld rfl) ?_;refine u1 0 (ak rfl dt) ?_;refine u1 0 (aa rfl cd) ?_;refine u1 0 (ld rfl) ?_;refine u1 0 (ak rfl dt) ?_;refine aJ 0 0 (aD rfl rfl) ?_ ?_
  ·intro h21;refine uO 11 ?_;refine aY ?_;refine⟨?_,O.nil⟩;rw[decide_eq_false];intro h;rw[h]at h21;omega
  ·intro h21;refine uO 13 ?_;intro a I;refine wp_loop_ghost (fun (mm:Nat) a w=>∃(k:Nat),Ag a 59 [(2,.pointer (some ⟨b2,0,none⟩)),(3,.pointer (some ⟨b3,0,none⟩)),(5,.int .i64 ((k:Nat):Int))]∧Sat W w ([a6 b3 (.cells #[.slice ua d2.vec.length uc,.slice ea d2.ab.length ec] 63),a6 b2 (.cells #[.slice va d.vec.length vc,.slice ca d.ab.length cc] 63)])∧(k≤d.vec.length)∧(d.vec.take k=d2.vec.take k)∧mm=d.vec.length-k) d.vec.length ?_ ?_
   ·replace I:=I.kp [2,3,5] rfl;exact⟨0,I,O,(by omega),(by rfl),by omega⟩
   intro m a w hI;clear O I;obtain⟨k,I,O,hk,he,rfl⟩:=hI;refine rC 4 I ?_;clear I a;refine u1 0 (aa rfl cD) ?_;refine u1 0 (ld rfl) ?_;refine u1 0 (ak rfl ax) ?_;refine aJ 0 0 (aq rfl rfl) ?_ ?_
   ·intro h27;refine uO 8 ?_;intro a I;refine cF (fun w'=>Sat _ w' _) (by kernel_rfl) (by kernel_rfl) O.drew ?_;refine Q1 0 I (fun w O=>(aa (I.ev rfl) cD)) ?_;clear I a;refine bj 1 (fun w O=>(ld rfl)) ?_;obtain⟨va_p,rfl⟩:∃q,va=some q:=(hpv.sat O).au (by omega);obtain⟨x,hx⟩:∃zz_,d.vec[k]?=some zz_:=⟨_,List.getElem?_eq_getElem (by omega)⟩;refine bj 0 (fun w O=>(ix rfl rfl ax eP)) ?_;refine bj 0 (fun w O=>(an rfl dA (fP (hpv.sat O) (bu hx)))) ?_;refine bj 0 (fun w O=>(aa rfl cD)) ?_;refine bj 1 (fun w O=>(ld rfl)) ?_;obtain⟨ua_p,rfl⟩:∃q,ua=some q:=(hqv.sat O).au (by omega);obtain⟨y,hy⟩:∃zz_,d2.vec[k]?=some zz_:=⟨_,List.getElem?_eq_getElem (by omega)⟩;refine bj 0 (fun w O=>(ix rfl rfl ax eP)) ?_;refine bj 0 (fun w O=>(an rfl dA (fP (hqv.sat O) (bu hy)))) ?_;intro a I
    refine K.sE I rfl rfl rfl (fun w O=>(aD (I.ev rfl) (I.ev rfl))) ?_ ?_
    ·clear I a;intro h40;intro a I;refine wpQuiet_nil ?_;clear O;intro w O;refine rE 13 I ?_;clear I a;refine aY ?_;refine⟨?_,O.nil⟩;rw[decide_eq_false];intro h;rw[h,hy]at hx;cases hx;omega
    ·clear I a;intro h40;intro a I;refine wpQuiet_nil ?_;clear O;intro w O;refine rE 7 I ?_;clear I a;refine u1 2 (ad rfl rfl) ?_;intro a I;replace I:=I.kp [2,3,5] rfl;refine⟨d.vec.length-(k+1),by omega,k+1,I,O,by omega,?_,rfl⟩;rw[aF hx,aF hy,he,show x=y from by omega]
   ·intro h27;refine uO 8 ?_;intro a I;replace I:=I.kp [2,3] rfl;refine rC 7 I ?_;clear I a;intro a I;refine wp_loop_ghost (fun (mm:Nat) a w=>∃(m:Nat),Ag a 59 [(2,.pointer (some ⟨b2,0,none⟩)),(3,.pointer (some ⟨b3,0,none⟩)),(6,.int .i64 ((m:Nat):Int))]∧Sat W w ([a6 b3 (.cells #[.slice ua d2.vec.length uc,.slice ea d2.ab.length ec] 63),a6 b2 (.cells #[.slice va d.vec.length vc,.slice ca d.ab.length cc] 63)])∧(m≤d.ab.length)∧(d.ab.take m=d2.ab.take m)∧mm=d.ab.length-m) d.ab.length ?_ ?_
    ·replace I:=I.kp [2,3,6] rfl;exact⟨0,I,O,(by omega),(by rfl),by omega⟩
    intro m a w hI;clear O I;obtain⟨m,I,O,hm,hf,rfl⟩:=hI;refine rC 4 I ?_;clear I a;refine u1 0 (aa rfl cd) ?_;refine u1 0 (ld rfl) ?_;refine u1 0 (ak rfl dt) ?_;refine aJ 0 0 (aq rfl rfl) ?_ ?_
    ·intro h45;refine uO 8 ?_;intro a I;refine cF (fun w'=>Sat _ w' _) (by kernel_rfl) (by kernel_rfl) O.drew ?_;refine Q1 0 I (fun w O=>(aa (I.ev rfl) cd)) ?_;clear I a;refine bj 1 (fun w O=>(ld rfl)) ?_;obtain⟨ca_p,rfl⟩:∃q,ca=some q:=(hpc.sat O).au (by omega);obtain⟨s,hs⟩:∃zz_,d.ab[m]?=some zz_:=⟨_,List.getElem?_eq_getElem (by omega)⟩;refine bj 0 (fun w O=>(ix rfl rfl dt cX)) ?_;refine bj 0 (fun w O=>(aG (cs:=gH s) rfl lr cX (fun j u e=>bQ (hpc.sat O) (dQ hs j u e)))) ?_;refine bj 0 (fun w O=>(aa rfl cd)) ?_;refine bj 1 (fun w O=>(ld rfl)) ?_;obtain⟨ea_p,rfl⟩:∃q,ea=some q:=(hqc.sat O).au (by omega);obtain⟨t,ht⟩:∃zz_,d2.ab[m]?=some zz_:=⟨_,List.getElem?_eq_getElem (by omega)⟩
     refine bj 0 (fun w O=>(ix rfl rfl dt cX)) ?_;refine bj 0 (fun w O=>(aG (cs:=gH t) rfl lr cX (fun j u e=>bQ (hqc.sat O) (dQ ht j u e)))) ?_;intro a I;refine K.sE I rfl rfl rfl (fun w O=>(yi (I.ev rfl) (I.ev rfl) Gz GS)) ?_ ?_
     ·clear I a;intro h58;intro a I;refine wpQuiet_nil ?_;clear O;intro w O;refine rE 13 I ?_;clear I a;refine aY ?_;refine⟨?_,O.nil⟩;rw[decide_eq_false];intro h;rw[h,ht]at hs;cases hs;simp at h58
     ·clear I a;intro h58;intro a I;refine wpQuiet_nil ?_;clear O;intro w O;refine rE 7 I ?_;clear I a;refine u1 2 (ad rfl rfl) ?_;intro a I;replace I:=I.kp [2,3,6] rfl;refine⟨d.ab.length-(m+1),by omega,m+1,I,O,by omega,?_,rfl⟩;rw[aF hs,aF ht,hf,show s=t from by cases s;cases t;simpa using h58]
    ·intro h45;refine uO 14 ?_;refine aY ?_;rw[List.take_of_length_le (by omega),List.take_of_length_le (by omega)]at he hf;refine⟨?_,O.nil⟩;rw[decide_eq_true];exact v7 he hf
end Go.Proofs.YtkjabaihpkbfhaaGreat.Wk
