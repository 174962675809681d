/- Texts of our own that a row leans on, put together. No condition of their own. -/
import Derived.Test.YtkjabaihpkbfhaaGreatMRowSaveFlips1
set_option linter.unusedVariables false
set_option linter.unusedSimpArgs false
set_option maxRecDepth 100000
set_option maxHeartbeats 2000000
namespace Go.Proofs.YtkjabaihpkbfhaaGreat.Wk
open Go Go.RowKit Go.Proofs.YtkjabaihpkbfhaaGreat Go.Proofs.YtkjabaihpkbfhaaGreat.K Go.Proofs.YtkjabaihpkbfhaaGreat.T
def l9 (l:List fZ):aJ:=gR ⟨[],l.map fun d=>⟨d.rep,d.num,d.num⟩⟩
def aR.dot (e:aR):fZ:=⟨e.rep,e.num⟩
def gb (x y:Int):Int:=if x<y then -1 else if y<x then 1 else 0
def cx:List Int→Int
 | []=>0
 | a::l=>if a=0 then cx l else a
def iM (s t:aN):Int:=cx [gb s.rep t.rep,gb s.lo t.lo,gb s.hi t.hi]
def df:List aN→List aN→Int
 | [],[]=>0
 | [],_::_=>-1
 | _::_,[]=>1
 | s::l,t::m=>if iM s t=0 then df l m else iM s t
def av (v:List Int)(r:Nat):Int:=match v[r]? with | some x=>x | none=>0
def se (a b:aJ):Int:=cx ((List.range 16).map (fun r=>gb (av a.vec r) (av b.vec r))++[df a.ab b.ab])
def pG (a b:aJ):Int:=se (gR a) (gR b)
theorem ez {x y:Int}:gb x y=0↔x=y:=by unfold gb;split<;>(try split)<;>omega
theorem cf (l m:List Int):cx (l++m)=if cx l=0 then cx m else cx l:=by
 induction l with
 | nil=>simp[cx]
 | cons a l ih =>
   rw[List.cons_append,cx,cx,ih]
   by_cases ha:a=0
   ·
    rw[if_pos ha,if_pos ha]
   ·
    rw[if_neg ha,if_neg ha,if_neg ha]
def iv (x:Int):Value:=.int .i64 x
def gS (r:bq):List Value:=[.int .i64 r.1,.int .i64 r.2]
def gm (s:aN):List Value:=[.int .i64 s.rep,.int .i64 s.lo,.int .i64 s.hi]
def pZ (d:fZ):List Value:=[.int .i64 d.rep,.int .i64 d.num]
def mr (e:aR):List Value:=[.int .i64 e.rep,.int .i64 e.num,.string e.cy,.int .i64 e.qg]
structure PL where
 va:Option Addr
 vc:Nat
 ca:Option Addr
 cc:Nat
 d:aJ
abbrev j2 (w:World)(A:Option Addr)(c:Nat)(xs:List Int):Prop:=Rd w 1 (.slice A xs.length c) xs.length (xs.map (Value.int .i64))
abbrev gF (w:World)(A:Option Addr)(c:Nat)(xs:List aN):Prop:=Rd w 3 (.slice A xs.length c) xs.length (xs.flatMap gm)
abbrev j7 (w:World)(A:Option Addr)(c:Nat)(xs:List bq):Prop:=Rd w 2 (.slice A xs.length c) xs.length (xs.flatMap gS)
abbrev fK (w:World)(A:Option Addr)(c:Nat)(xs:List aR):Prop:=Rd w 4 (.slice A xs.length c) xs.length (xs.flatMap mr)
abbrev Gl (w:World)(A:Option Addr)(c:Nat)(xs:List fZ):Prop:=Rd w 2 (.slice A xs.length c) xs.length (xs.flatMap pZ)
abbrev cM (e:Nat)(A:Option Addr)(c:Nat)(xs:List Int):As:=row e 1 (.slice A xs.length c) xs.length (xs.map (Value.int .i64))
abbrev bH (e:Nat)(A:Option Addr)(c:Nat)(xs:List aN):As:=row e 3 (.slice A xs.length c) xs.length (xs.flatMap gm)
abbrev eR (e:Nat)(A:Option Addr)(c:Nat)(xs:List bq):As:=row e 2 (.slice A xs.length c) xs.length (xs.flatMap gS)
abbrev iX (e:Nat)(A:Option Addr)(c:Nat)(xs:List aR):As:=row e 4 (.slice A xs.length c) xs.length (xs.flatMap mr)
abbrev IZ (e:Nat)(A:Option Addr)(c:Nat)(xs:List fZ):As:=row e 2 (.slice A xs.length c) xs.length (xs.flatMap pZ)
theorem ov {α:Type}{enc:α→List Value}{k:Nat}(hk:∀x,(enc x).length=k):∀xs:List α,(xs.flatMap enc).length=xs.length * k
 | []=>by simp
 | x::xs=>by simp[ov hk xs,hk,Nat.add_mul,Nat.add_comm]
theorem jn {α:Type}{enc:α→List Value}{k:Nat}(hk:∀x,(enc x).length=k):∀ {xs:List α} {i:Nat} {x:α},xs[i]?=some x→∀j u,(enc x)[j]?=some u→(xs.flatMap enc)[i * k+j]?=some u
 | [],i,x,h,_,_,_=>by simp at h
 | y :: xs, 0, x, h, j, u, hj => by
   simp at h;subst h;have:=(List.getElem?_eq_some_iff.1 hj).1;rw[List.flatMap_cons,List.getElem?_append_left (by omega)];simpa using hj
 | y :: xs, i + 1, x, h, j, u, hj => by
   rw[List.flatMap_cons,List.getElem?_append_right (by rw[hk];rw[Nat.add_mul];omega),hk,show (i+1) * k+j-k=i * k+j from by rw[Nat.add_mul];omega];exact jn hk (by simpa using h) j u hj
theorem uw (r:bq):(gS r).length=2:=rfl
theorem zi (r:aN):(gm r).length=3:=rfl
theorem u3 (r:fZ):(pZ r).length=2:=rfl
theorem DI (r:aR):(mr r).length=4:=rfl
theorem eD {xs:List bq}{i:Nat}{x:bq}(h:xs[i]?=some x):∀j u,(gS x)[j]?=some u→(xs.flatMap gS)[i * 2+j]?=some u:=jn uw h
theorem dD {xs:List aN}{i:Nat}{x:aN}(h:xs[i]?=some x):∀j u,(gm x)[j]?=some u→(xs.flatMap gm)[i * 3+j]?=some u:=jn zi h
theorem s8 {xs:List fZ}{i:Nat}{x:fZ}(h:xs[i]?=some x):∀j u,(pZ x)[j]?=some u→(xs.flatMap pZ)[i * 2+j]?=some u:=jn u3 h
theorem cS {xs:List aR}{i:Nat}{x:aR}(h:xs[i]?=some x):∀j u,(mr x)[j]?=some u→(xs.flatMap mr)[i * 4+j]?=some u:=jn DI h
theorem DF {α:Type}{enc:α→List Value}(h1:∀x,∀u∈enc x,u.oneCell'=true)(xs:List α):∀u∈xs.flatMap enc,u.oneCell'=true:=fun u hu=>by
 obtain⟨x,_,hx⟩:=List.mem_flatMap.1 hu;exact h1 x u hx
theorem qH (x:bq):∀u∈gS x,u.oneCell'=true:=fun u hu=>by simp[gS]at hu;rcases hu with rfl | rfl<;>rfl
theorem zf (xs:List Int):∀u∈xs.map (Value.int .i64),u.oneCell'=true:=fun u hu=>by
 obtain⟨x,_,rfl⟩:=List.mem_map.1 hu
 rfl
structure PL.ok (w:World)(p:PL):Prop where
 vec:j2 w p.va p.vc p.d.vec
 ab:gF w p.ca p.cc p.d.ab
theorem PL.ok.sat {W w:World}{L:List As}{p:PL}(h:p.ok W)(s:Sat W w L):p.ok w:=⟨h.vec.sat s,h.ab.sat s⟩
structure RL where
 cy:ByteArray
 p:PL
def RL.d (r:RL):bS:=⟨r.cy,r.p.d⟩
def iT (r:RL):List Value:=[.string r.cy,.slice r.p.va r.p.d.vec.length r.p.vc,.slice r.p.ca r.p.d.ab.length r.p.cc]
theorem tH (r:RL):(iT r).length=3:=rfl
theorem cR {xs:List RL}{i:Nat}{x:RL}(h:xs[i]?=some x):∀j u,(iT x)[j]?=some u→(xs.flatMap iT)[i * 3+j]?=some u:=jn tH h
abbrev fG (w:World)(A:Option Addr)(c:Nat)(rs:List RL):Prop:=Rd w 3 (.slice A rs.length c) rs.length (rs.flatMap iT)
def nU (p:PL):List Value:=[.slice p.va p.d.vec.length p.vc,.slice p.ca p.d.ab.length p.cc]
theorem Em (r:PL):(nU r).length=2:=rfl
theorem kJ {xs:List PL}{i:Nat}{x:PL}(h:xs[i]?=some x):∀j u,(nU x)[j]?=some u→(xs.flatMap nU)[i * 2+j]?=some u:=jn Em h
abbrev Bi (w:World)(A:Option Addr)(c:Nat)(ps:List PL):Prop:=Rd w 2 (.slice A ps.length c) ps.length (ps.flatMap nU)
structure jr where
 a:Option Addr
 c:Nat
 rs:List RL
def jr.d (r:jr):List bS:=r.rs.map RL.d
structure jr.ok (w:World)(r:jr):Prop where
 top:fG w r.a r.c r.rs
 each:∀x∈r.rs,x.p.ok w
theorem jr.ok.sat {W w:World}{L:List As}{r:jr}(h:r.ok W)(s:Sat W w L):r.ok w:=⟨h.top.sat s,fun x hx=>(h.each x hx).sat s⟩
structure HQ where
 a:Option Addr
 c:Nat
 es:List aR
def HQ.ok (w:World)(e:HQ):Prop:=fK w e.a e.c e.es
theorem HQ.ok.sat {W w:World}{L:List As}{e:HQ}(h:e.ok W)(s:Sat W w L):e.ok w:=Rd.sat h s
structure SL where
 e:HQ
 p:PL
 r:jr
def SL.d (s:SL):iW:=⟨s.e.es,s.p.d,s.r.d⟩
def nL (s:SL):List Value:=[.slice s.e.a s.e.es.length s.e.c,.slice s.p.va s.p.d.vec.length s.p.vc,.slice s.p.ca s.p.d.ab.length s.p.cc,.slice s.r.a s.r.rs.length s.r.c]
structure SL.ok (w:World)(s:SL):Prop where
 e:s.e.ok w
 p:s.p.ok w
 r:s.r.ok w
theorem SL.ok.sat {W w:World}{L:List As}{s:SL}(h:s.ok W)(t:Sat W w L):s.ok w:=⟨h.e.sat t,h.p.sat t,h.r.sat t⟩
def PL.ch (ei es:Nat)(p:PL):As:=star (cM ei p.va p.vc p.d.vec) (bH es p.ca p.cc p.d.ab)
theorem PL.uh {W w:World}{L:List As}{ei es:Nat}{p:PL}(s:Sat W w (p.ch ei es::L)):p.ok w:=⟨s.open_.rd,s.open_.qv.rd⟩
theorem PL.D4 {W w:World}{L:List As}{ei es:Nat}{A B:Option Addr}{c c':Nat}{d:aJ}(s:Sat W w (cM ei A c d.vec::bH es B c' d.ab::L)):Sat W w ((⟨A,c,B,c',d⟩:PL).ch ei es::L):=s.shut
def jr.ch (er ei es:Nat)(r:jr):As:=star (row er 3 (.slice r.a r.rs.length r.c) r.rs.length (r.rs.flatMap iT)) (br (r.rs.map fun x=>x.p.ch ei es))
theorem tL {W w:World}{L:List As}{ei es:Nat}{rs:List RL}(s:Sat W w (br (rs.map fun x=>x.p.ch ei es)::L)):∀x∈rs,x.p.ok w:=fun x hx=>by
 obtain⟨i,hi⟩:=List.mem_iff_getElem?.1 hx;have h:(rs.map fun x=>x.p.ch ei es)[i]?=some (x.p.ch ei es):=by rw[List.getElem?_map,hi];rfl
 exact PL.uh (s.dO h)
theorem jr.uh {W w:World}{L:List As}{er ei es:Nat}{r:jr}(s:Sat W w (r.ch er ei es::L)):r.ok w:=⟨s.open_.rd,tL s.open_.qv⟩
structure Loc (α:Type) where
 a:Option Addr
 c:Nat
 xs:List α
def ru {α:Type}(l:Loc α):List Value:=[.slice l.a l.xs.length l.c]
theorem DN {α:Type}(l:Loc α):(ru l).length=1:=rfl
theorem FD {α:Type}{xs:List (Loc α)}{i:Nat}{x:Loc α}(h:xs[i]?=some x):∀j u,(ru x)[j]?=some u→(xs.flatMap ru)[i * 1+j]?=some u:=jn DN h
def Loc.runs (w:World)(l:Loc bq):Prop:=j7 w l.a l.c l.xs
theorem qM (a b:List bq):fj (a++b)=fj a++fj b:=by simp[fj]
theorem nu {a:List bq}{r c:bq}(h:gJ r=some c):fj (a++[r])=fj a++[c]:=by rw[qM];simp[fj,h]
theorem nG {a:List bq}{r:bq}(h:gJ r=none):fj (a++[r])=fj a:=by rw[qM];simp[fj,h]
theorem iD (l:List bq):(fj l).length≤l.length:=List.length_filterMap_le _ _
theorem DH {xs:List bq}{i:Nat}{x:bq}(h:xs[i]?=some x)(v:Int):(xs.flatMap gS).set (i * 2+1) (.int .i64 v)=(xs.set i (x.1,v)).flatMap gS:=by
 induction xs generalizing i with
 | nil=>simp at h
 | cons y xs ih =>
   cases i with
   | zero=>simp at h;subst h;rfl
   | succ i =>
     rw[List.flatMap_cons,List.set_append_right _ _ (by simp[gS];omega)];rw[show (i+1) * 2+1-(gS y).length=i * 2+1 from by simp[gS];omega,ih (by simpa using h)]
     rfl
theorem EK {xs:List bq}{x r:bq}(h:xs[xs.length-1]?=some x)(h0:0<xs.length)(hr:r.1≤x.2+1):gg xs r=xs.set (xs.length-1) (x.1,max x.2 r.2):=by
 rcases List.eq_nil_or_concat xs with rfl | ⟨o,y,rfl⟩
 ·
  simp at h0
 ·
  rw[List.concat_eq_append]at *;simp at h;subst h;rw[mC,if_pos hr];simp
theorem wG {xs:List bq}{r:bq}(h:∀x,xs[xs.length-1]?=some x→0<xs.length→¬r.1≤x.2+1):gg xs r=xs++[r]:=by
 rcases List.eq_nil_or_concat xs with rfl | ⟨o,y,rfl⟩
 ·
  rfl
 ·
  rw[List.concat_eq_append]at *;rw[mC,if_neg (h y (by simp) (by simp))]
theorem y8 (xs:List bq)(r:bq):(gg xs r).length≤xs.length+1:=by
 rcases List.eq_nil_or_concat xs with rfl | ⟨o,y,rfl⟩
 ·
  simp[gg]
 ·
  rw[List.concat_eq_append,mC];split<;>simp
theorem nS:∀(l out:List bq),(l.foldl gg out).length≤out.length+l.length
 | [],out=>by simp
 | r :: l, out => by
   have:=nS l (gg out r);have:=y8 out r;rw[List.foldl_cons,List.length_cons];omega
theorem CY {raw ys:List bq}(hp:ys.Perm (fj raw))(hs:ys.Pairwise (fun a b=>a.1≤b.1)):ys.foldl gg []=ar raw:=by
 obtain⟨h1,h2⟩:=pX ys [] trivial (fun r hr=>nM r (hp.mem_iff.1 hr)) (fun s hs=>by cases hs) hs;refine oA h1 fun n=>?_;rw[h2,←wu];constructor
 ·
  rintro (h | ⟨r,hr,h⟩)
  ·
   simp[bG]at h
  ·
   exact⟨r,hp.mem_iff.1 hr,h⟩
 ·
  rintro ⟨r,hr,h⟩;exact .inr ⟨r,hp.mem_iff.2 hr,h⟩
theorem Cu {raw ys:List bq}(hp:ys.Perm (fj raw))(hs:ys.Pairwise (fun a b=>a.1≤b.1))(k:Nat):can ((ys.take k).foldl gg [])∧∀s∈(ys.take k).foldl gg [],∀r∈ys.drop k,s.1≤r.1:=by
 have hok:∀r∈ys,1≤r.1∧r.1≤r.2∧r.2≤gG:=fun r hr=>nM r (hp.mem_iff.1 hr)
 have hsk:(ys.take k).Pairwise (fun a b=>a.1≤b.1):=hs.sublist (List.take_sublist k ys);obtain⟨h1,h2⟩:=pX (ys.take k) [] trivial (fun r hr=>hok r (List.mem_of_mem_take hr)) (fun s hs=>by cases hs) hsk;refine⟨h1,fun s hs2 r hr=>?_⟩
 have hcr:∀a∈ys.take k,∀b∈ys.drop k,a.1≤b.1:=by
  have:=hs;rw[←List.take_append_drop k ys,List.pairwise_append]at this;exact this.2.2
 have hm:bG ((ys.take k).foldl gg []) s.1:=⟨s,hs2,Int.le_refl _,(h1.each s hs2).2.1⟩;rcases (h2 s.1).1 hm with h | ⟨t,ht,h3,h4⟩
 ·
  simp[bG]at h
 ·
  -- s begins where one of those that were added begins,or behind
  have:∀(l out:List bq),(∀x∈out,∀r∈ys.drop k,x.1≤r.1)→(∀x∈l,∀r∈ys.drop k,x.1≤r.1)→∀x∈l.foldl gg out,∀r∈ys.drop k,x.1≤r.1:=by
   intro l
   induction l with
   | nil=>intro out ho _ x hx;exact ho x hx
   | cons y l ih =>
     intro out ho hl x hx;refine ih (gg out y) (fun z hz q hq=>?_) (fun z hz=>hl z (by simp[hz])) x hx;rcases List.eq_nil_or_concat out with rfl | ⟨o,v,rfl⟩
     ·
      simp[gg]at hz;subst hz;exact hl _ (by simp) q hq
     ·
      rw[List.concat_eq_append,mC]at hz
      split at hz
      ·
       rcases List.mem_append.1 hz with hz | hz
       ·
        exact ho z (by simp[hz]) q hq
       ·
        simp at hz;subst hz;exact ho v (by simp) q hq
      ·
       rcases List.mem_append.1 hz with hz | hz
       ·
        exact ho z (by simpa using hz) q hq
       ·
        simp at hz;subst hz;exact hl _ (by simp) q hq
  exact this (ys.take k) [] (fun x hx=>by cases hx) hcr s hs2 r hr
theorem cH (l:List bq):(ar l).length≤l.length:=by
 have hi:∀(l:List bq) (r:bq),(pS r l).length≤l.length+1:=by
  intro l
  induction l with
  | nil=>intro r;simp[pS]
  | cons x l ih =>
    intro r;rw[pS]
    split
    ·
     simp
    ·
     split
     ·
      have:=ih r;simp;omega
     ·
      have:=ih (min r.1 x.1,max r.2 x.2);simp;omega
 induction l with
 | nil=>simp[ar]
 | cons r l ih =>
   have e:ar (r::l)=match gJ r with | some c=>pS c (ar l) | none=>ar l:=rfl
   rw[e];cases gJ r with
   | none=>simp only;simp;omega
   | some c=>simp only;have:=hi (ar l) c;simp;omega
theorem fW {W w:World}{L:List As}{e sz n c:Nat}{A:Option Addr}{cs cs':List Value}{m:Nat}(h:Sat W w (row e sz (.slice A n c) n cs::L))(hn:n=m)(hc:cs=cs'):Sat W w (row e sz (.slice A m c) m cs'::L):=by subst hn hc;exact h
theorem pM {A:Option Addr}{n m c:Nat}(h:n=m):Ending.returned (.slice A n c)=.returned (.slice A m c):=by rw[h]
theorem bY {W w:World}{L:List As}{A:As}(s:Sat W w (A::L)):Sat W w [A]:=Sat.cW (M:=[A]) (L:=L) s [A]
theorem oW {W w:World}{L:List As}{A B:As}(s:Sat W w (A::B::L)):Sat W w [A,B]:=Sat.cW (M:=[A,B]) (L:=L) s [A,B]
theorem pw {W w:World}{L:List As}{A B C:As}(s:Sat W w (A::B::C::L)):Sat W w [A,B,C]:=Sat.cW (M:=[A,B,C]) (L:=L) s [A,B,C]
theorem B9 {W w:World}{L:List As}{A B C D:As}(s:Sat W w (A::B::C::D::L)):Sat W w [A,B,C,D]:=Sat.cW (M:=[A,B,C,D]) (L:=L) s [A,B,C,D]
theorem wa {α:Type}{enc:α→List Value}{k:Nat}(hk:∀x,(enc x).length=k):∀(xs:List α) (i:Nat),(xs.flatMap enc).drop (i * k)=(xs.drop i).flatMap enc
 | xs,0=>by simp
 | [],i+1=>by simp
 | x :: xs, i + 1 => by
   rw[List.flatMap_cons,List.drop_append,List.drop_of_length_le (by rw[hk,Nat.add_mul];omega),List.nil_append,hk,show (i+1) * k-k=i * k from by rw[Nat.add_mul];omega,wa hk xs i]
   rfl
theorem FZ {w:World}{A:Option Addr}{c:Nat}{ns:List bq}(h:j7 w A c ns)(h1:1≤ns.length):Rd w 2 (.slice (i6 A c 2 1) (ns.length-1) (c-1)) (ns.length-1) ((ns.drop 1).flatMap gS):=by
 have h2:=Rd.Gq h 1 h1;rwa[wa uw ns 1]at h2
theorem pV:∀(l:List bq) (next:Int),(ly next l).length≤l.length+1
 | [],next=>by unfold ly;split<;>simp
 | r :: l, next => by
   have:=pV l (r.2+1);rw[ly,List.length_append,List.length_cons]
   split<;>simp<;>omega
theorem lM (l:List bq):(aQ l).2.length≤l.length:=by
 cases l with
 | nil=>simp[aQ]
 | cons r l=>rw[fY];split<;>simp
theorem AL (W:World)(r:bq)  : Calls Tryz.prog 285 #[.agg #[.int .i64 r.1,.int .i64 r.2]] W fun e w'=>e=.returned (.tuple #[.agg #[.int .i64 (max r.1 1),.int .i64 (min r.2 1000000000)],.bool (decide (max r.1 1≤min r.2 1000000000))])∧Sat W w' []:=by
 refine bP Tryz.func285 [0] ?_;have O:=Sat.start W;refine uC 2 ?_;refine uB rfl O ?_;clear O;intro b1 w O;refine uN pn O ?_;clear O;intro b2 w O;refine uO 5 ?_;refine u1 0 (aa rfl gr) ?_;refine u1 0 (ld rfl) ?_;refine u1 0 (ue rfl rfl) ?_;refine u1 0 (aa rfl dV) ?_;refine u1 0 (ld rfl) ?_;refine u1 0 (yg rfl rfl) ?_;refine u1 0 (aa rfl gr) ?_;intro a I;refine mf (cs':=[_,_]) I rfl rfl dE fO rfl (O.p 1) rfl rfl ?_;clear O;intro w O;refine o1 0 I (aa (I.ev rfl) dV) ?_;clear I a;intro a I;refine mf (cs':=[_,_]) I rfl rfl dE fO rfl O rfl rfl ?_;clear O;intro w O;refine rO 3 I ?_;clear I a;intro a I;refine HC (fun w'=>∃v,Sat W w' [a6 b1 (.cells #[.int .i64 (max r.1 1),.int .i64 (min r.2 1000000000)] 357),a6 b2 (.cells v 357)]) (by kernel_rfl) ?_;replace O:=O.drew
 refine K.h1 0 I pk rfl rfl rfl rfl (by kernel_rfl) (by kernel_rfl) (by kernel_rfl) (by exact⟨_,O⟩) (fun w hT=>let ⟨v,O⟩:=hT;(ax (cs:=[_,_]) (I.ev rfl) sM dw (by exact O.aF (xs:=[_,_]) rfl))) ?_;clear I a;intro a I;refine K.h1 1 I pk rfl rfl rfl rfl (by kernel_rfl) (by kernel_rfl) (by kernel_rfl) (by exact⟨_,O⟩) (fun w hT=>let ⟨v,O⟩:=hT;(aa (I.ev rfl) gr)) ?_;clear I a;intro a I;refine K.h1 2 I pk rfl rfl rfl rfl (by kernel_rfl) (by kernel_rfl) (by kernel_rfl) (by exact⟨_,O⟩) (fun w hT=>let ⟨v,O⟩:=hT;(aj (I.ev rfl) dE (by exact O.cell rfl))) ?_;clear I a;intro a I;refine K.h1 3 I pk rfl rfl rfl rfl (by kernel_rfl) (by kernel_rfl) (by kernel_rfl) (by exact⟨_,O⟩) (fun w hT=>let ⟨v,O⟩:=hT;(aa (I.ev rfl) dV)) ?_;clear I a;intro a I
 refine K.h1 4 I pk rfl rfl rfl rfl (by kernel_rfl) (by kernel_rfl) (by kernel_rfl) (by exact⟨_,O⟩) (fun w hT=>let ⟨v,O⟩:=hT;(aj (I.ev rfl) dE (by exact O.cell rfl))) ?_;clear I a;intro a I;refine K.h1 5 I pk rfl rfl rfl rfl (by kernel_rfl) (by kernel_rfl) (by kernel_rfl) (by exact⟨_,O⟩) (fun w hT=>let ⟨v,O⟩:=hT;(dU (I.ev rfl) (I.ev rfl))) ?_;clear I a;intro a I;refine JB 6 (by kernel_rfl) ?_;refine dr (vs:=[_,_]) (cs':=[_,_]) I rfl rfl rfl dw (by simp[Value.oneCell']) (O.p 1) rfl rfl ?_;clear O;intro w O;refine⟨(by exact⟨_,O.p 1⟩),?_⟩;refine K.h1 7 I pk rfl rfl rfl rfl (by kernel_rfl) (by kernel_rfl) (by kernel_rfl) (by exact⟨_,O.p 1⟩) (fun w hT=>let ⟨v,O⟩:=hT;(qt (I.ev rfl))) ?_;clear I a;intro a I;refine wpAnyH_done (by kernel_rfl) ?_ _;refine rE 2 I ?_;clear I a;intro a I
 refine eu I rfl (de (cs:=[_,_]) I rfl sM dw (by exact O.aF (xs:=[_,_]) rfl)) (dm I rfl) ?_;exact⟨rfl,O.nil⟩
theorem CU (W w:World)(L:List As)(A:Option Addr)(c:Nat)(xs:List bq)(r:bq)(O:Sat W w (eR 357 A c xs::L))(hx2:∀x∈xs,0≤x.2∧x.2≤1000000000)(hl:xs.length≤1000000000000):Calls Tryz.prog 288 #[.slice A xs.length c,.agg #[.int .i64 r.1,.int .i64 r.2]] w fun e w'=>∃A' c',e=.returned (.slice A' (gg xs r).length c')∧Sat W w' (eR 357 A' c' (gg xs r)::L):=by
 refine bP Tryz.func288 [0,1] ?_;refine uC 2 ?_;refine uB rfl O ?_;clear O;intro b3 w O;refine uO 7 ?_;refine u1 4 (ak rfl bR) ?_;intro a I;refine cD (fun w'=>Sat _ w' _) (by kernel_rfl) (by kernel_rfl) O.drew ?_;refine rQ 1 I ?_;clear I a;intro a I;refine K.rn I rfl rfl rfl (fun w O=>(dx (I.ev rfl) (I.ev rfl))) ?_ ?_
 ·clear I a;intro h9;refine uQ 1 ?_;refine bc 0 (fun w O=>(aa rfl gr)) ?_;refine bc 2 (fun w O=>(ld rfl)) ?_;refine bc 0 (fun w O=>(sb rfl rfl)) ?_;obtain⟨A_p,rfl⟩:∃q,A=some q:=(O.p 1).rd.ao (by omega);obtain⟨x,hx⟩:∃zz_,xs[((xs.length:Int)-1).toNat]?=some zz_:=⟨_,List.getElem?_eq_getElem (by omega)⟩;have hxb:=hx2 x (List.mem_of_getElem? hx);refine bc 0 (fun w O=>(ix rfl rfl bR dw)) ?_;refine bc 0 (fun w O=>(aw rfl dV)) ?_;refine bc 0 (fun w O=>(aj rfl dE (bI (O.p 1).rd (eD hx 1 _ rfl)))) ?_;refine bc 0 (fun w O=>(ad rfl rfl)) ?_;intro a I;refine K.lx I (aL I rfl rfl rfl) rfl rfl (fun w O=>(dU (I.ev rfl) (I.ev rfl))) ?_ ?_
  ·clear I a;intro h20;refine uQ 1 ?_;intro a I;refine wpQuiet_nil ?_;clear O;intro w O;refine rE 3 I ?_;clear I a;intro a I;refine fg (l1:=[_,_,_,_,_,_,_,_,_,_,_,_,_,_]) (l2:=[_]) rfl (by kernel_rfl) (by kernel_rfl) ?_;replace O:=O.drew;refine rT 2 I ?_;clear I a;refine eG 2 (sb rfl rfl) ?_;refine eG 0 (sb rfl rfl) ?_;refine eG 0 (ix rfl rfl bR dw) ?_;refine eG 0 (aw rfl dV) ?_;refine eG 0 (aj rfl dE (bI (O.p 1).rd (eD hx 1 _ rfl))) ?_;refine eG 0 (aa rfl dV) ?_;refine eG 0 (ld rfl) ?_;refine eG 0 (ue rfl rfl) ?_;refine eG 0 (ix rfl rfl bR dw) ?_;refine eG 0 (aw rfl dV) ?_;intro a I;refine wpStill_nil ?_;refine Af (((xs.length:Int)-1).toNat * 2+1) I rfl (add_add _ _ _) rfl dE fO rfl (O.p 1) (by rw[ov uw];omega) ?_;clear O;intro w O;refine rO 2 I ?_;clear I a
   intro a I;replace I:=I.kp [0,3,4] rfl;refine rC 8 I ?_;clear I a;refine aS ?_;have ex:xs[xs.length-1]?=some x:=by rw[←hx];congr 1;omega
   have es:=EK (r:=r) ex (by omega) (by omega);have ei:((xs.length:Int)-1).toNat=xs.length-1:=by omega
   rw[ei,DH ex]at O;rw[es];exact⟨_,_,pM List.length_set.symm,fW (O.p 1).drop List.length_set.symm rfl⟩
  ·clear I a;intro h20;refine uQ 1 ?_;intro a I;refine wpQuiet_nil ?_;clear O;intro w O;refine rE 7 I ?_;clear I a;refine u1 0 (lS (cs:=[_,_]) rfl) ?_;intro a I;refine jf (vss:=[[_,_]]) I rfl rfl bR iB rfl rfl rfl (by simp) rfl O ?_;clear I a O;intro A39 w O;intro a I;refine dj I rfl rfl rfl bR iB rfl (O.p 2) (O.rd.src bR (qH r)) (by omega) (by omega) ?_;clear I a O;intro A40 c40 w hc40 O;refine uO 4 ?_;refine aS ?_;have ex:xs[xs.length-1]?=some x:=by rw[←hx];congr 1;omega
   have es:gg xs r=xs++[r]:=wG fun y hy h0=>by rw[ex]at hy;cases hy;omega
   rw[es];exact⟨_,_,pM (by simp),fW ((O.p 2).drop.p 1).drop (by simp) (by simp[gS])⟩
 ·clear I a;intro h9;refine uQ 12 ?_;intro a I;refine wpQuiet_nil ?_;clear O;intro w O;refine rE 7 I ?_;clear I a;refine u1 0 (lS (cs:=[_,_]) rfl) ?_;intro a I;refine jf (vss:=[[_,_]]) I rfl rfl bR iB rfl rfl rfl (by simp) rfl O ?_;clear I a O;intro A39 w O;intro a I;refine dj I rfl rfl rfl bR iB rfl (O.p 2) (O.rd.src bR (qH r)) (by omega) (by omega) ?_;clear I a O;intro A40 c40 w hc40 O;refine uO 4 ?_;refine aS ?_;have es:gg xs r=xs++[r]:=wG fun y hy h0=>by omega
  rw[es];exact⟨_,_,pM (by simp),fW ((O.p 2).drop.p 1).drop (by simp) (by simp[gS])⟩
theorem yh (W:World)(A:Option Addr)(n c:Nat)(xs:List bq)(hR:Rd W 2 (.slice A n c) n (xs.flatMap gS))(hn:n=xs.length)(hl:xs.length≤1000000000000):Calls Tryz.prog 273 #[.slice A n c] W fun e w'=>∃A' c',e=.returned (.slice A' xs.length c')∧Sat W w' [eR 357 A' c' xs]:=by
 refine bP Tryz.func273 [0] ?_;have O:=Sat.start W;refine uC 9 ?_;refine ng 0 0 (AJ rfl rfl bR) ?_ ?_
 ·intro h4;refine uO 10 ?_;refine aS ?_;obtain rfl:A=none:=by simpa using h4
  obtain⟨h0,_⟩:=hR.nil;obtain rfl:=List.eq_nil_of_length_eq_zero (by omega:xs.length=0);exact⟨none,0,rfl,O.aX _ _⟩
 ·intro h4;refine uO 7 ?_;intro a I;refine zq I rfl bR iB O ?_;clear I a O;intro A5 w O;refine uO 1 ?_;intro a I;refine dj I rfl rfl rfl bR iB rfl O ((hR.sat O).src bR (DF qH xs)) (by omega) (by omega) ?_;clear I a O;intro A7 c7 w hc7 O;refine uO 4 ?_;refine aS ?_;simp only[Nat.zero_add,List.nil_append]at O ⊢;exact⟨_,_,pM hn,fW O hn rfl⟩
end Go.Proofs.YtkjabaihpkbfhaaGreat.Wk
namespace Go.Proofs.YtkjabaihpkbfhaaGreat.K
open Go Go.RowKit Go.Proofs
theorem vg {α:Type}[Inhabited α]{enc:α→List Value}{k:Nat}(hk:∀x,(enc x).length=k)(d:Array α):(Go.Sort.flatK enc k d).toList=d.toList.flatMap enc:=by
 have key:∀l:List α,(Go.Sort.flatK enc k l.toArray).toList=l.flatMap enc:=by
  intro l
  have hl:∀l:List α,(l.flatMap enc).length=l.length * k:=by
   intro l
   induction l with
   | nil=>simp
   | cons x l ih=>rw[List.flatMap_cons,List.length_append,ih,hk,List.length_cons,Nat.add_mul];omega
  refine List.ext_getElem (by rw[hl];simp) fun i h1 h2=>?_;have hi:i<l.length * k:=by rw[hl]at h2;exact h2
  have k0 : 0 < k := by rcases Nat.eq_zero_or_pos k with h | h; · subst h; simp at hi
                        ·
                         exact h
  have e1:(Go.Sort.flatK enc k l.toArray).toList[i]=(enc l.toArray[i / k]!)[i % k]!:=by
   have h3:=Go.Sort.get_flatK enc k l.toArray i (by simpa using hi);rw[getElem!_pos _ i (by simpa using hi)]at h3;rw[←h3];simp
  rw[e1];have hq:i / k<l.length:=by rw[Nat.div_lt_iff_lt_mul k0];exact hi
  have hm:i % k<k:=Nat.mod_lt _ k0
  have at_:∀(l:List α) (q j:Nat) (hq:q<l.length) (hj:j<k),(l.flatMap enc)[q * k+j]?=some ((enc l[q])[j]'(by rw[hk];exact hj)):=by
   intro l
   induction l with
   | nil=>intro q j hq;simp at hq
   | cons x l ih =>
     intro q j hq hj;cases q with
     | zero=>rw[List.flatMap_cons,List.getElem?_append_left (by rw[hk];omega)];simp[hk,hj]
     | succ q =>
       rw[List.flatMap_cons,List.getElem?_append_right (by rw[hk,Nat.add_mul];omega),hk,show (q+1) * k+j-k=q * k+j from by rw[Nat.add_mul];omega];exact ih q j (by simpa using hq) hj
  have h4:=at_ l (i / k) (i % k) hq hm;have hdm:i / k * k+i % k=i:=by rw[Nat.mul_comm];exact Nat.div_add_mod i k
  rw[hdm,List.getElem?_eq_getElem h2]at h4;have h5:=Option.some.inj h4;rw[h5];have h6:l.toArray[i / k]! =l[i / k]:=by rw[getElem!_pos _ _ (by simpa using hq)];simp
  rw[h6,getElem!_pos _ _ (by rw[hk];exact hm)]
 have:=key d.toList;simpa using this
theorem CK {α:Type}[Inhabited α]{W w:World}{L:List As}{enc:α→List Value}{e k b n c:Nat}{xs:List α}(hk:∀x,(enc x).length=k)(s:Sat W w (row e k (.slice (some ⟨b,0,none⟩) n c) n (xs.flatMap enc)::L))(hn:n=xs.length) :
 Go.Sort.HoldsK enc k w b 0 xs.toArray∧W.heap.size≤b∧b<w.heap.size:=by
 obtain⟨bl,h,⟨h1,h2,a,s1,s2,q,r⟩,t⟩:=s;rcases q with ⟨hv,_,_⟩ | ⟨b',cap,sp,fr,hv,hnc,hcap,hl,hl2,hfr,hb⟩
 ·
  cases hv
 ·
  cases hv;have S:Sat W w (a6 b (.cells (xs.flatMap enc++sp).toArray e fr)::L):=⟨bl,h,⟨h1,h2,a,s1,s2,hb,r⟩,t⟩;refine⟨fun j hj=>?_,S.block.2,S.lt⟩;rw[Go.Sort.size_flatK]at hj;have hj:j<xs.length * k:=by simpa using hj
  have hlen:(xs.flatMap enc).length=xs.length * k:=by rw[hl,hn]
  have e1:(Go.Sort.flatK enc k xs.toArray)[j]! =(xs.flatMap enc)[j]'(by rw[hlen];exact hj):=by
   have e2:=vg hk xs.toArray;simp only[]at e2;have hj2:j<(Go.Sort.flatK enc k xs.toArray).toList.length:=by simpa using hj
   rw[getElem!_pos _ j (by simpa using hj)];have e3:(Go.Sort.flatK enc k xs.toArray).toList[j]=(xs.flatMap enc)[j]'(by rw[hlen];exact hj):=List.getElem_of_eq e2 hj2;rw[←e3];simp
  rw[e1,Nat.zero_add];have hcap':j<c * k:=by rw[←hl2,List.length_append,hlen];omega
  refine⟨?_,S.xD hfr hcap'⟩;refine S.ph ?_;simp only[List.getElem?_toArray];rw[List.getElem?_append_left (by rw[hlen];exact hj)];exact List.getElem?_eq_getElem _
theorem xe {F:Array Value}{cs sp:List Value}(h:F.size=cs.length):Go.Sort.putCells id 0 F (cs++sp).toArray=(F.toList++sp).toArray:=by
 refine Array.ext' ?_;refine List.ext_getElem ?_ fun i h1 h2=>?_
 ·
  simp[Go.Sort.putCells,h]
 ·
  simp only[Go.Sort.putCells,Array.toList_mapIdx,List.getElem_mapIdx,Nat.zero_le,true_and,Nat.zero_add,Nat.sub_zero,id]
  by_cases hi:i<F.size
  ·
   rw[if_pos hi,getElem!_pos F i hi];simp[hi]
  ·
   rw[if_neg hi];have:cs.length≤i:=by omega
   have h3:F.toList.length≤i:=by simp;omega
   simp only[List.getElem_append_right h3];simp[List.getElem_append_right this,h]
theorem Sat.sorted {α:Type}[Inhabited α]{W w:World}{L:List As}{enc:α→List Value}{e k b n c m:Nat}{xs:List α}(hk:∀x,(enc x).length=k)(d:Array α)(os:Array Obj)(s:Sat W w (row e k (.slice (some ⟨b,0,none⟩) n c) n (xs.flatMap enc)::L))(hn:n=xs.length)(hd:d.size=xs.length) :
 Sat W (sortWorldK enc k w b 0 m d os) (row e k (.slice (some ⟨b,0,none⟩) n c) n (d.toList.flatMap enc)::L):=by
 have hfl:=vg hk d;obtain⟨bl,h,⟨h1,h2,a,s1,s2,q,r⟩,t⟩:=s;rcases q with ⟨hv,_,_⟩ | ⟨b',cap,sp,fr,hv,hnc,hcap,hl,hl2,hfr,hb⟩
 ·
  cases hv
 ·
  cases hv;have S:Sat W w (a6 b (.cells (xs.flatMap enc++sp).toArray e fr)::L):=⟨bl,h,⟨h1,h2,a,s1,s2,hb,r⟩,t⟩;have hbk:=S.block;have hsz:(Go.Sort.flatK enc k d).size=(xs.flatMap enc).length:=by rw[Go.Sort.size_flatK,hl,hn,hd]
  have hheap:(Go.Sort.putRowK enc k (Go.Sort.ahead w m) b 0 d).heap=w.heap.modify b (Go.Sort.onCells (Go.Sort.putCells id 0 (Go.Sort.flatK enc k d))):=rfl
  have S1:Sat W (Go.Sort.putRowK enc k (Go.Sort.ahead w m) b 0 d) (a6 b (.cells (d.toList.flatMap enc++sp).toArray e fr)::L):=by
   refine S.write ⟨rfl,rfl,rfl,by rw[hheap];simp,fun i hi=>?_⟩ ?_ fun i hi=>?_
   ·
    rw[hheap,Array.getElem?_modify,if_neg (by omega)]
   ·
    rw[hheap,Array.getElem?_modify,if_pos rfl,hbk.1];simp only[Option.map_some,Go.Sort.onCells];rw[xe hsz,hfl]
   ·
    rw[hheap,Array.getElem?_modify,if_neg (by omega)]
  have S2:Sat W (sortWorldK enc k w b 0 m d os) (a6 b (.cells (d.toList.flatMap enc++sp).toArray e fr)::L):=by
   have hlt:=S1.below.size
   have hg:∀i,i<(Go.Sort.putRowK enc k (Go.Sort.ahead w m) b 0 d).heap.size→(sortWorldK enc k w b 0 m d os).heap[i]?=(Go.Sort.putRowK enc k (Go.Sort.ahead w m) b 0 d).heap[i]?:=fun i hi=>by
    show ((Go.Sort.putRowK enc k (Go.Sort.ahead w m) b 0 d).heap++os)[i]?=_;rw[Array.getElem?_append_left hi]
   refine S1.move ⟨rfl,rfl,rfl,?_,fun i hi=>hg i (by omega)⟩ fun i o hi he=>?_
   ·
    show _≤((Go.Sort.putRowK enc k (Go.Sort.ahead w m) b 0 d).heap++os).size;rw[Array.size_append];omega
   ·
    rw[hg i (Array.getElem?_eq_some_iff.1 he).1];exact he
  refine S2.imp fun g hg=>.inr ⟨b,c,sp,fr,rfl,hnc,hcap,?_,?_,hfr,hg⟩
  ·
   rw[←hfl,Array.length_toList,hsz,hl]
  ·
   rw[List.length_append,←hfl,Array.length_toList,hsz,←List.length_append,hl2]
theorem yu {α:Type}[Inhabited α]{lt:α→α→Bool}{d:Array α}(h:Go.Sort.SortedIn lt 0 d.size d):d.toList.Pairwise fun x y=>lt y x=false:=by
 rw[List.pairwise_iff_getElem];intro i j hi hj hij;have:=h i j (Nat.zero_le _) hij (by simpa using hj);rw[getElem!_pos d i (by simpa using hi),getElem!_pos d j (by simpa using hj)]at this;simpa using this
theorem C9 {α:Type}[Inhabited α]{d d':Array α}(h:Go.Sort.PermIn 0 d.size d d'):d'.size=d.size∧d'.toList.Perm d.toList:=by
 obtain⟨h1,_,h3⟩:=h;refine⟨h1,?_⟩;have e1:d'.extract 0 d.size=d':=by rw[←h1];exact Array.extract_size
 have e2:d.extract 0 d.size=d:=Array.extract_size;rwa[e1,e2]at h3
end Go.Proofs.YtkjabaihpkbfhaaGreat.K
namespace Go.Proofs.YtkjabaihpkbfhaaGreat.Wk
open Go Go.RowKit Go.Proofs.YtkjabaihpkbfhaaGreat Go.Proofs.YtkjabaihpkbfhaaGreat.K Go.Proofs Go.Shelf Go.Sort Go.Proofs.YtkjabaihpkbfhaaGreat.T
def zO:Go.Shelf.Ren:=⟨fun | 6=>286 | 15=>175 | 14=>295 | 28=>214 | 29=>215 | 20=>297 | 21=>298 | 22=>299 | 23=>300 | 24=>301 | 25=>302 | 26=>303 | 27=>304 | 46=>305 | 47=>306 | 48=>307 | 49=>308 | 50=>309 | 57=>310 | n=>n,fun | 22=>326 | 24=>357 | 25=>397 | 3=>3 | 39=>265 | 0=>0 | 53=>208 | 55=>333 | 4=>4 | 46=>404 | 45=>403 | 50=>340 | 5=>5 | 9=>9 | 66=>409 | 70=>372 | 76=>412 | 77=>121 | n=>n,fun | n=>n⟩
theorem Cc:Go.Proofs.SlLaysF0.n6 Tryz.prog zO:={
 mixed:=(by kernel_rfl)
 f6:=⟨Tryz.f286.name,by decide,Tryz.func286.trans (congrArg some (by kernel_rfl))⟩
 f14:=⟨Tryz.f295.name,by decide,Tryz.func295.trans (congrArg some (by kernel_rfl))⟩
 f15:=Tryz.func175.trans (congrArg some (by kernel_rfl))
 f20:=⟨Tryz.f297.name,by decide,Tryz.func297.trans (congrArg some (by kernel_rfl))⟩
 f21:=⟨Tryz.f298.name,by decide,Tryz.func298.trans (congrArg some (by kernel_rfl))⟩
 f22:=⟨Tryz.f299.name,by decide,Tryz.func299.trans (congrArg some (by kernel_rfl))⟩
 f23:=⟨Tryz.f300.name,by decide,Tryz.func300.trans (congrArg some (by kernel_rfl))⟩
 f24:=⟨Tryz.f301.name,by decide,Tryz.func301.trans (congrArg some (by kernel_rfl))⟩
 f25:=⟨Tryz.f302.name,by decide,Tryz.func302.trans (congrArg some (by kernel_rfl))⟩
 f26:=⟨Tryz.f303.name,by decide,Tryz.func303.trans (congrArg some (by kernel_rfl))⟩
 f27:=⟨Tryz.f304.name,by decide,Tryz.func304.trans (congrArg some (by kernel_rfl))⟩
 f28:=Tryz.func214.trans (congrArg some (by kernel_rfl))
 f29:=Tryz.func215.trans (congrArg some (by kernel_rfl))
 f46:=⟨Tryz.f305.name,by decide,Tryz.func305.trans (congrArg some (by kernel_rfl))⟩
 f47:=Tryz.func306.trans (congrArg some (by kernel_rfl))
 f48:=Tryz.func307.trans (congrArg some (by kernel_rfl))
 f49:=⟨Tryz.f308.name,by decide,Tryz.func308.trans (congrArg some (by kernel_rfl))⟩
 f50:=⟨Tryz.f309.name,by decide,Tryz.func309.trans (congrArg some (by kernel_rfl))⟩
 f57:=⟨Tryz.f310.name,by decide,Tryz.func310.trans (congrArg some (by kernel_rfl))⟩
 t0:=Tryz.underlying0
 a0:=Tryz.isAgg0
 z0:=Tryz.sizeOf0
 v0:=Tryz.zeroValue0
 t3:=Tryz.underlying3
 a3:=Tryz.isAgg3
 z3:=Tryz.sizeOf3
 v3:=Tryz.zeroValue3
 t4:=Tryz.underlying4
 a4:=Tryz.isAgg4
 z4:=Tryz.sizeOf4
 v4:=Tryz.zeroValue4
 t5:=Tryz.underlying5
 a5:=Tryz.isAgg5
 z5:=Tryz.sizeOf5
 v5:=Tryz.zeroValue5
 t9:=Tryz.underlying9
 a9:=Tryz.isAgg9
 z9:=Tryz.sizeOf9
 v9:=Tryz.zeroValue9
 t22:=Tryz.underlying326
 a22:=Tryz.isAgg326
 z22:=Tryz.sizeOf326
 v22:=Tryz.zeroValue326
 t25:=Tryz.underlying397
 a25:=Tryz.isAgg397
 z25:=Tryz.sizeOf397
 v25:=Tryz.zeroValue397
 t39:=Tryz.underlying265
 a39:=Tryz.isAgg265
 z39:=Tryz.sizeOf265
 v39:=Tryz.zeroValue265
 t45:=Tryz.underlying403
 a45:=Tryz.isAgg403
 z45:=Tryz.sizeOf403
 v45:=Tryz.zeroValue403
 t46:=Tryz.underlying404
 a46:=Tryz.isAgg404
 z46:=Tryz.sizeOf404
 v46:=Tryz.zeroValue404
 t50:=Tryz.underlying340
 a50:=Tryz.isAgg340
 z50:=Tryz.sizeOf340
 v50:=Tryz.zeroValue340
 t53:=Tryz.underlying208
 a53:=Tryz.isAgg208
 z53:=Tryz.sizeOf208
 v53:=Tryz.zeroValue208
 t55:=Tryz.underlying333
 a55:=Tryz.isAgg333
 z55:=Tryz.sizeOf333
 v55:=Tryz.zeroValue333
 t66:=Tryz.underlying409
 a66:=Tryz.isAgg409
 z66:=Tryz.sizeOf409
 v66:=Tryz.zeroValue409
 t70:=Tryz.underlying372
 a70:=Tryz.isAgg372
 z70:=Tryz.sizeOf372
 v70:=Tryz.zeroValue372
 t76:=Tryz.underlying412
 a76:=Tryz.isAgg412
 z76:=Tryz.sizeOf412
 v76:=Tryz.zeroValue412
 t77:=Tryz.underlying121
 a77:=Tryz.isAgg121
 z77:=Tryz.sizeOf121
 v77:=Tryz.zeroValue121 }
abbrev ur:={r:bq // 1≤r.1∧r.1≤1000000000}
instance:Inhabited ur:=⟨⟨(1,1),by decide⟩⟩
def Cp (r:ur):List Value:=gS r.1
def H2 (x y:ur):Int:=x.1.1-y.1.1
theorem Jz (x y:ur):ltOf H2 x y=decide (x.1.1<y.1.1):=by unfold ltOf H2;rw[decide_eq_decide];omega
theorem JG:Go.Sort.SWO (ltOf H2) where
 irrefl x:=by rw[Jz];simp
 trans x y z h1 h2:=by rw[Jz]at *;simp at *;omega
 ntrans x y z h1 h2:=by rw[Jz]at *;simp at *;omega
theorem Hd (x y:ur)(W:World):Calls Tryz.prog 287 #[.agg #[.int .i64 x.1.1,.int .i64 x.1.2],.agg #[.int .i64 y.1.1,.int .i64 y.1.2]] W fun e w'=>e=.returned (.int .i64 (x.1.1-y.1.1))∧∃q os',w'=grow (W.drewN q) os':=by
 have hw:IntKind.i64.wrap (x.1.1-y.1.1)=x.1.1-y.1.1:=by
  have:=x.2;have:=y.2;refine gB ?_ ?_<;>simp[IntKind.min,IntKind.max,IntKind.signed,IntKind.bits]<;>omega
 generalize x.1.1=a1 at hw ⊢
 generalize x.1.2=a2
 generalize y.1.1=b1 at hw ⊢
 generalize y.1.2=b2
 go_enter Tryz.func287,Tryz.ntmps287
 go_wp2
 go_ret
 exact⟨rfl,0,_,by rw[alloc_eq_grow,alloc_eq_grow,grow_grow];rfl⟩
theorem AA (blk off size:Nat)(w:World):CmpLays Tryz.prog 287 #[] Cp 2 H2 blk off size w:=fun _ _ _ _ x y=>Hd x y _
theorem ET {xs:List bq}(h:∀x∈xs,1≤x.1∧x.1≤x.2∧x.2≤gG):∃gs:List ur,gs.map Subtype.val=xs:=by
 induction xs with
 | nil=>exact⟨[],rfl⟩
 | cons x xs ih =>
   obtain⟨gs,hg⟩:=ih fun y hy=>h y (by simp[hy])
   have hx:=h x (by simp);rw[dI]at hx;exact⟨⟨x,hx.1,by omega⟩::gs,by simp[hg]⟩
theorem GP (gs:List ur):gs.flatMap Cp=(gs.map Subtype.val).flatMap gS:=by rw[List.flatMap_map];rfl
theorem uu (W w:World)(L:List As)(A:Option Addr)(c:Nat)(xs:List bq)(O:Sat W w (eR 357 A c xs::L))(hv:∀x∈xs,1≤x.1∧x.1≤x.2∧x.2≤gG)(hl:xs.length≤1000000000000) :
 Calls Tryz.prog 286 #[.slice A xs.length c,.func (.func 287) #[] #[]] w fun e w'=>e=.returned (.tuple #[])∧∃ys,ys.Perm xs∧ys.Pairwise (fun a b=>a.1≤b.1)∧Sat W w' (eR 357 A c ys::L):=by
 by_cases h0:xs=[]
 ·
  subst h0;exact (AnyF.slices_SortFunc_none Cc A c _ w).mono fun e w' ⟨he,hw⟩=>⟨he,[],.refl _,.nil,by rw[hw];exact O⟩
 ·
  have hpos:0<xs.length:=List.length_pos_iff.2 h0;obtain⟨gs,hg⟩:=ET hv;have hgl:gs.length=xs.length:=by rw[←hg];simp
  have I:∃b,A=some ⟨b,0,none⟩:=by
   obtain⟨_,h,⟨h1,h2,a,s1,s2,q,r⟩,t⟩:=O;rcases q with ⟨hv,h3,_⟩ | ⟨b',cap,sp,fr,hv,_⟩
   ·
    omega
   ·
    cases hv;exact⟨_,rfl⟩
  obtain⟨b,rfl⟩:=I;have hS2:Sat W w (row 357 2 (.slice (some ⟨b,0,none⟩) xs.length c) xs.length (gs.flatMap Cp)::L):=by rw[GP,hg];exact O
  obtain⟨hH,hb1,hb2⟩:=CK (enc:=Cp) (fun _=>rfl) hS2 hgl.symm;have eg:∀args w,(callFunc 287 args).run Tryz.prog w=.ok (.enter 287 args) w:=enters_of Tryz.func287 (by kernel_rfl) rfl;have hcon:=AnyQ.slices_SortFunc Cc 2 Tryz.isAgg357 Tryz.sizeOf357 Cp (fun _=>rfl) (fun x=>qH x.1) H2 JG 287 #[] b 0 c gs.toArray w eg (AA _ _ _ _) hH hb2 (by simp;omega);rw[show gs.toArray.size=xs.length from by simpa using hgl]at hcon;change Calls Tryz.prog 286 _ _ _ at hcon;refine hcon.mono ?_;rintro e w' ⟨he,d',n,os,hp,hs,rfl⟩;have hsz:gs.toArray.size=xs.length:=by simpa using hgl
  rw[←hsz]at hp hs;obtain⟨hp1,hp2⟩:=C9 hp;rw[←hp1]at hs;have hs2:=yu hs;refine⟨he,d'.toList.map Subtype.val,?_,?_,?_⟩
  ·
   rw[←hg];exact (hp2.map _).trans (by simp)
  ·
   rw[List.pairwise_map];refine hs2.imp fun {x y} h=>?_;rw[Jz]at h;simp at h;exact h
  ·
   have hS3:=Sat.sorted (m:=n) (enc:=Cp) (fun _=>rfl) d' os hS2 hgl.symm (by rw[hp1,hsz,hgl]);rw[GP]at hS3;exact fW hS3 (by simp[hp1,hgl]) rfl
end Go.Proofs.YtkjabaihpkbfhaaGreat.Wk
namespace Go.Proofs.YtkjabaihpkbfhaaGreat.Wk
open Go Go.RowKit Go.Proofs.YtkjabaihpkbfhaaGreat Go.Proofs.YtkjabaihpkbfhaaGreat.K Go.Proofs.YtkjabaihpkbfhaaGreat.T
theorem ay {α:Type}{xs:List α}{i:Nat}{x:α}(h:xs[i]?=some x):xs.take (i+1)=xs.take i++[x]:=by
 have hi:=(List.getElem?_eq_some_iff.1 h).1;rw[List.take_add_one,h];rfl
theorem px {α:Type}(ls:List (Loc α))(i:Nat):((ls.take i).flatMap Loc.xs).length≤(ls.flatMap Loc.xs).length:=by
 conv=>rhs;rw[←List.take_append_drop i ls,List.flatMap_append,List.length_append]
 omega
theorem Dd {ls:List (Loc bq)}{i:Nat}{l:Loc bq}(hl:ls[i]?=some l)(j:Nat):(fj ((ls.take i).flatMap Loc.xs++l.xs.take j)).length≤(ls.flatMap Loc.xs).length:=by
 refine Nat.le_trans (iD _) ?_;have h1:=px ls (i+1);rw[ay hl,List.flatMap_append,List.length_append]at h1;simp only[List.flatMap_cons,List.flatMap_nil,List.append_nil]at h1;rw[List.length_append,List.length_take];omega
theorem zG (W:World)(A:Option Addr)(c:Nat)(ls:List (Loc bq))(hR:Rd W 1 (.slice A ls.length c) ls.length (ls.flatMap ru))(hE:∀l∈ls,l.runs W)(hn:ls.length≤1000000000000)(ht:(ls.flatMap Loc.xs).length≤1000000000000):Calls Tryz.prog 277 #[.slice A (ls).length c] W fun e w'=>∃A' c',e=.returned (.slice A' (ar (ls.flatMap Loc.xs)).length c')∧Sat W w' [eR 357 A' c' (ar (ls.flatMap Loc.xs))]:=by
 refine bP Tryz.func277 [0] ?_;have O:=Sat.start W;refine uC 14 ?_;refine u1 4 (ak rfl Eu) ?_;intro a I;refine wp_loop_ghost (fun (mm:Nat) a w=>∃(i:Nat) (xs:List bq) (Aa:Option Addr) (ca:Nat),Ag a 50 [(3,.slice Aa (xs).length ca),(13,.slice A (ls).length c),(14,.int .i64 ((ls.length:Nat):Int)),(15,.int .i64 ((i:Nat):Int))]∧Sat W w ([eR 357 Aa ca xs])∧(i≤ls.length)∧(xs=fj ((ls.take i).flatMap Loc.xs))∧mm=ls.length-i) ls.length ?_ ?_
 ·replace I:=I.kp [3,13,14,15] rfl;exact⟨0,[],none,0,I,(O.aX 357 2),(by omega),(by rfl),by omega⟩
 intro m a w hI;clear O I;obtain⟨i,xs,Aa,ca,I,O,hi,hx,rfl⟩:=hI;refine rC 2 I ?_;clear I a;refine aK 0 0 (aq rfl rfl) ?_ ?_
 ·intro h16;refine uO 10 ?_;obtain⟨A_p,rfl⟩:∃q,A=some q:=(hR.sat O).ao (by omega);obtain⟨l,hl⟩:∃zz_,ls[i]?=some zz_:=⟨_,List.getElem?_eq_getElem (by omega)⟩;obtain⟨la,lc,lxs⟩:=l;have hlr:j7 W la lc lxs:=hE _ (List.mem_of_getElem? hl);intro a I
  have hll:lxs.length≤1000000000000:=by
   have h1:=px ls (i+1);rw[ay hl,List.flatMap_append,List.length_append]at h1;simp only[List.flatMap_cons,List.flatMap_nil,List.append_nil]at h1;omega
  refine o1 0 I (fV (I.ev rfl) (I.ev rfl) Eu iL (by omega) (by omega)) ?_;clear I a;refine u1 6 (aj rfl kN (bI (hR.sat O) (FD hl 0 _ rfl))) ?_;refine u1 4 (ak rfl bR) ?_;intro a I;refine wp_loop_ghost (fun (mm:Nat) a w=>∃(j:Nat) (xs:List bq) (Aa:Option Addr) (ca:Nat),Ag a 50 [(3,.slice Aa (xs).length ca),(13,.slice (some A_p) (ls).length c),(14,.int .i64 ((ls.length:Nat):Int)),(15,.int .i64 ((i:Nat):Int)),(19,.slice la (lxs).length lc),(20,.int .i64 ((lxs.length:Nat):Int)),(21,.int .i64 ((j:Nat):Int))]∧Sat W w ([eR 357 Aa ca xs])∧(j≤lxs.length)∧(xs=fj ((ls.take i).flatMap Loc.xs++lxs.take j))∧mm=lxs.length-j) lxs.length ?_ ?_
  ·replace I:=I.kp [3,13,14,15,19,20,21] rfl;exact⟨0,xs,Aa,ca,I,O,(by omega),(by rw[hx];simp),by omega⟩
  intro m a w hI;clear O I;obtain⟨j,xs,Aa,ca,I,O,hj,hx,rfl⟩:=hI;refine rC 2 I ?_;clear I a;refine aK 0 0 (aq rfl rfl) ?_ ?_
  ·intro h22;refine uO 10 ?_;obtain⟨la_p,rfl⟩:∃q,la=some q:=(hlr.sat O).ao (by omega);obtain⟨r,hr⟩:∃zz_,lxs[j]?=some zz_:=⟨_,List.getElem?_eq_getElem (by omega)⟩;have hxl:xs.length≤1000000000000:=by rw[hx];exact Nat.le_trans (Dd hl j) ht
   refine u1 0 (ix rfl rfl bR dw) ?_;refine u1 0 (ax (cs:=gS r) rfl sM dw (fun j u e=>bI (hlr.sat O) (eD hr j u e))) ?_;refine uN pn O ?_;clear O;intro b7 w O;refine uW (vs:=[_,_]) (cs':=[_,_]) rfl rfl dw O ?_;clear O;intro w O;refine uO 4 ?_;refine u1 0 (lS (cs:=[_,_]) rfl) ?_;refine uF rfl (AL w r) ?_;rintro e w ⟨rfl,hT⟩;replace O:Sat _ _ _:=O.ag hT;clear hT;refine uO 1 ?_;refine u1 0 (an rfl rfl) ?_;refine ng 0 0 (an rfl rfl) ?_ ?_
   ·intro h29;intro a I;simp only[decide_eq_decide,decide_eq_true_eq,decide_eq_false_iff_not,Bool.not_eq_true',Bool.not_eq_false',bne_iff_ne,ne_eq,beq_iff_eq,Bool.not_eq_true,Bool.not_eq_false]at h29;refine goN I rfl pn O ?_;clear I a O;intro b8 w O;refine uW (vs:=[_,_]) (cs':=[_,_]) rfl rfl dw O ?_;clear O;intro w O;refine uO 11 ?_;refine u1 0 (lS (cs:=[_,_]) rfl) ?_;intro a I;refine jf (vss:=[[_,_]]) I rfl rfl bR iB rfl rfl rfl (by simp) rfl O ?_;clear I a O;intro A33 w O;intro a I;refine dj I rfl rfl rfl bR iB rfl (O.p 3) (O.rd.src bR (by simp[Value.oneCell'])) (by omega) (by omega) ?_;clear I a O;intro A34 c34 w hc34 O;refine uO 5 ?_;refine u1 2 (ad rfl rfl) ?_;intro a I;replace I:=I.kp [3,13,14,15,19,20,21] rfl;have hc:gJ r=some (max r.1 1,min r.2 1000000000):=by unfold gJ;rw[dI,if_pos h29]
    have e1:=nu (a:=(ls.take i).flatMap Loc.xs++lxs.take j) hc;rw[List.append_assoc,←ay hr,←hx]at e1;refine⟨lxs.length-(j+1),by omega,j+1,xs++[(max r.1 1,min r.2 1000000000)],_,_,?_,fW (bY O) (by simp) (by simp[gS]),by omega,e1.symm,rfl⟩;rw[List.length_append];exact I
   ·intro h29;intro a I;simp only[decide_eq_decide,decide_eq_true_eq,decide_eq_false_iff_not,Bool.not_eq_true',Bool.not_eq_false',bne_iff_ne,ne_eq,beq_iff_eq,Bool.not_eq_true,Bool.not_eq_false]at h29;refine goN I rfl pn O ?_;clear I a O;intro b8 w O;refine uW (vs:=[_,_]) (cs':=[_,_]) rfl rfl dw O ?_;clear O;intro w O;refine uO 13 ?_;refine u1 2 (ad rfl rfl) ?_;intro a I;replace I:=I.kp [3,13,14,15,19,20,21] rfl;have hc:gJ r=none:=by unfold gJ;rw[dI,if_neg h29]
    have e1:=nG (a:=(ls.take i).flatMap Loc.xs++lxs.take j) hc;rw[List.append_assoc,←ay hr,←hx]at e1;exact⟨lxs.length-(j+1),by omega,j+1,xs,_,_,I,O.drop.drop,by omega,e1.symm,rfl⟩
  ·intro h22;refine uO 11 ?_;refine u1 2 (ad rfl rfl) ?_;intro a I;replace I:=I.kp [3,13,14,15] rfl;refine⟨ls.length-(i+1),by omega,i+1,xs,_,_,I,O,by omega,?_,rfl⟩;rw[hx,List.take_of_length_le (show lxs.length≤j by omega),ay hl,List.flatMap_append];simp
 ·intro h16;obtain rfl:i=ls.length:=by omega
  intro a I;rw[List.take_length]at hx;refine rO 12 I ?_;clear I a;refine uF rfl (uu _ _ _ Aa ca xs O (fun x hq=>by rw[hx]at hq;exact nM x hq) (by rw[hx];exact Nat.le_trans (iD _) ht)) ?_;clear O;rintro e w ⟨rfl,ys,hp,hsd,O⟩;intro a I;rw[←hp.length_eq]at I;replace hp:ys.Perm (fj (ls.flatMap Loc.xs)):=hx ▸ hp;have hyl:ys.length≤1000000000000:=by rw[hp.length_eq];exact Nat.le_trans (iD _) ht
  refine rO 11 I ?_;clear I a;refine u1 3 (ak rfl bR) ?_;intro a I;replace I:=I.kp [10,39,40,41] rfl;refine rC 1 I ?_;clear I a;intro a I;refine wp_loop_ghost (fun (mm:Nat) a w=>∃(k:Nat) (Ao:Option Addr) (co:Nat),Ag a 50 [(10,.slice Ao (((ys.take k).foldl gg [])).length co),(39,.slice Aa (ys).length ca),(40,.int .i64 ((ys.length:Nat):Int)),(41,.int .i64 ((k:Nat):Int))]∧Sat W w ([eR 357 Ao co ((ys.take k).foldl gg []),eR 357 Aa ca ys])∧(k≤ys.length)∧mm=ys.length-k) ys.length ?_ ?_
  ·replace I:=I.kp [10,39,40,41] rfl;exact⟨0,none,0,I,(O.aX 357 2),(by omega),by omega⟩
  intro m a w hI;clear O I;obtain⟨k,Ao,co,I,O,hk,rfl⟩:=hI;refine rC 2 I ?_;clear I a;refine aK 0 0 (aq rfl rfl) ?_ ?_
  ·intro h42;refine uO 10 ?_;obtain⟨Aa_p,rfl⟩:∃q,Aa=some q:=(O.p 1).rd.ao (by omega);obtain⟨r,hr⟩:∃zz_,ys[k]?=some zz_:=⟨_,List.getElem?_eq_getElem (by omega)⟩;have huc:=Cu hp hsd k;have hcb:∀x∈(ys.take k).foldl gg [],0≤x.2∧x.2≤1000000000:=fun x hq=>by have:=huc.1.each x hq;rw[dI]at this;omega
   intro a I
   have hcl:((ys.take k).foldl gg []).length≤1000000000000:=by
    have:=nS (ys.take k) [];simp at this;omega
   refine o1 0 I (fV (I.ev rfl) (I.ev rfl) bR dw (by omega) (by omega)) ?_;clear I a;refine u1 0 (ax (cs:=gS r) rfl sM dw (fun j u e=>bI (O.p 1).rd (eD hr j u e))) ?_;refine uN pn O ?_;clear O;intro b12 w O;refine uW (vs:=[_,_]) (cs':=[_,_]) rfl rfl dw O ?_;clear O;intro w O;refine uO 4 ?_;refine u1 0 (lS (cs:=[_,_]) rfl) ?_;refine uF rfl (CU _ _ _ Ao co ((ys.take k).foldl gg []) r (O.p 1) hcb hcl) ?_;clear O;rintro e w ⟨A1,c1,rfl,O⟩;refine uO 5 ?_;refine u1 2 (ad rfl rfl) ?_;intro a I;replace I:=I.kp [10,39,40,41] rfl;have e1:(ys.take (k+1)).foldl gg []=gg ((ys.take k).foldl gg []) r:=by rw[ay hr,List.foldl_append];rfl
   refine⟨ys.length-(k+1),by omega,k+1,A1,c1,?_,?_,by omega,rfl⟩
   ·rw[e1];exact I
   ·rw[e1];exact (O.p 1).drop
  ·intro h42;refine uO 16 ?_;refine aS ?_;have eU:(ys.take k).foldl gg []=ar (ls.flatMap Loc.xs):=by rw[List.take_of_length_le (by omega),CY hp hsd]
   rw[eU]at O ⊢;exact⟨_,_,rfl,bY O⟩
theorem G0 (W:World)(B:Option Addr)(d:Nat)(A:Option Addr)(c:Nat)(xs:List bq)(hB:Rd W 1 (.slice B 1 d) 1 [.slice A xs.length c])(hR:j7 W A c xs)(hl:xs.length≤1000000000000) :
 Calls Tryz.prog 277 #[.slice B 1 d] W fun e w'=>∃A' c',e=.returned (.slice A' (ar xs).length c')∧Sat W w' [eR 357 A' c' (ar xs)]:=by
 have h:=zG W B d [(⟨A,c,xs⟩:Loc bq)] hB (fun l h=>by simp at h;subst h;exact hR) (by simp) (by simpa using hl);rw[show [(⟨A,c,xs⟩:Loc bq)].flatMap Loc.xs=xs from by simp]at h;exact h
theorem wQ {ns:List bq}(h:∀r,ns[0]?=some r→r.1≠1):aQ ns=(0,ns):=by
 cases ns with
 | nil=>rfl
 | cons r l=>rw[fY,if_neg (h r rfl)]
theorem EM {ns:List bq}{r:bq}(h:ns[0]?=some r)(h1:r.1=1):aQ ns=(r.2,ns.drop 1):=by
 cases ns with
 | nil=>simp at h
 | cons x l=>simp at h;subst h;rw[fY,if_pos h1];rfl
theorem qR (l m:List bq):cV (l++m)=cV l+cV m:=by
 unfold cV
 induction l with
 | nil=>simp
 | cons x l ih=>simp only[List.cons_append,List.foldr_cons,ih];omega
theorem sy {l:List bq}(h:can l)(i:Nat):0≤cV (l.take i)∧cV (l.take i)≤1000000000:=by
 have hc:can (l.take i):=tv (m:=l.drop i) (by rw[List.take_append_drop];exact h);refine⟨(iP hc).1,?_⟩;rcases uU hc (Int.le_refl 0) (fun s hs=>by have:=(hc.each s hs).1;omega) with h | h
 ·
  rw[dI]at h;omega
 ·
  rw[h];decide
theorem aC {α:Type}{xs:List α}{i:Nat}{x:α}(h:xs[i]?=some x):xs.drop i=x::xs.drop (i+1):=by
 have hi:=(List.getElem?_eq_some_iff.1 h);rw[List.drop_eq_getElem_cons hi.1,hi.2]
theorem yK (next:Int)(r:bq)(l:List bq):ly next (r::l)=(if next<r.1 then [(next,r.1-1)] else [])++ly (r.2+1) l:=rfl
theorem BB (next:Int):ly next []=if next≤gG then [(next,gG)] else []:=rfl
theorem lp (W:World)(A:Option Addr)(c:Nat)(xs:List bq)(hR:j7 W A c xs)(hl:xs.length≤1000000000000):Calls Tryz.prog 253 #[.slice A (xs).length c] W fun e w'=>∃A' c',e=.returned (.slice A' (ar xs).length c')∧Sat W w' [eR 357 A' c' (ar xs)]:=by
 refine bP Tryz.func253 [0] ?_;have O:=Sat.start W;refine uC 8 ?_;intro a I;refine nF I rfl rfl Eu Ie rfl rfl rfl (by simp[Value.oneCell']) O ?_;clear I a O;intro A4 w O;refine uF rfl (G0 _ _ _ A c xs O.rd (hR.sat O) hl) ?_;rintro e w ⟨A1,c1,rfl,hT⟩;replace O:=O.au hT;clear hT;refine uO 4 ?_;refine aS ?_;exact⟨_,_,rfl,bY O⟩
theorem Bc (W:World)(A:Option Addr)(c:Nat)(xs:List bq)(hR:j7 W A c xs)(hl:xs.length≤1000000000000):Calls Tryz.prog 243 #[.slice A (xs).length c] W fun e w'=>∃A' c',e=.returned (.tuple #[.int .i64 (aQ (ar xs)).1,.slice A' (aQ (ar xs)).2.length c'])∧Sat W w' [eR 357 A' c' (aQ (ar xs)).2]:=by
 refine bP Tryz.func243 [0] ?_;intro a I;refine FA fun Q _ hQ=>?_;have O:=Sat.start W;refine rC 9 I ?_;clear I a;refine uF rfl (lp _ A c xs (hR.sat O) hl) ?_;rintro e w ⟨A1,c1,rfl,hT⟩;replace O:=O.au hT;clear hT;have hcn1:=eo xs;have hnl1:=cH xs;generalize hns1:ar xs=ns at O hcn1 hnl1 ⊢;refine uO 7 ?_;refine u1 0 (ak rfl bR) ?_;refine aK 0 0 (aY rfl rfl) ?_ ?_
 ·intro h9;refine uO 19 ?_;intro a I;refine hQ _ _ _ ?_;refine F2 I rfl rfl rfl ?_;have eL:aQ ns=(0,ns):=wQ fun q hq=>by rw[List.getElem?_eq_none (by omega)]at hq;cases hq
  rw[hns1,eL];exact⟨_,_,rfl,bY O⟩
 ·intro h9;refine uO 2 ?_;obtain⟨A1_p,rfl⟩:∃q,A1=some q:=O.rd.ao (by omega);obtain⟨r,hr⟩:∃zz_,ns[0]?=some zz_:=⟨_,List.getElem?_eq_getElem (by omega)⟩;refine u1 0 (ix rfl rfl bR dw) ?_;refine u1 0 (aw rfl gr) ?_;refine u1 0 (aj rfl dE (bI O.rd (eD hr 0 _ rfl))) ?_;refine aK 0 0 (aG rfl rfl) ?_ ?_
  ·intro h15;refine uO 13 ?_;intro a I;refine hQ _ _ _ ?_;refine F2 I rfl rfl rfl ?_;have eL:aQ ns=(0,ns):=wQ fun q hq=>by rw[hr]at hq;cases hq;exact h15
   rw[hns1,eL];exact⟨_,_,rfl,bY O⟩
  ·intro h15;refine uO 7 ?_;intro a I;refine bj [] O (by kernel_rfl) ?_;replace O:=O.drew;refine rX [0] I ?_;clear I a;refine bx 1 [] rfl (fun w=>(ix rfl rfl bR dw)) ?_;refine bx 2 [] rfl (fun w=>(aw rfl dV)) ?_;refine cP 3 [4] rfl (by exact⟨[],O⟩) (fun w hT=>have O:=hT.sat;(aj rfl dE (bI O.rd (eD hr 1 _ rfl)))) ?_;refine bx 5 [] rfl (fun w=>(wM rfl rfl bR dw (by omega) (by omega))) ?_;intro a I;refine aD 6 (by kernel_rfl) ?_;refine eF I rfl rfl I4 rfl (yh _ _ _ _ (ns.drop 1) (FZ O.rd (by omega)) (by simp) (by simp;omega)) ?_;clear I a;rintro e w ⟨A2,c2,rfl,hT⟩;replace O:=O.au hT;clear hT;refine⟨_,rfl,?_⟩;intro a I;refine⟨.inr fun _=>(by exact⟨[_],O⟩),?_⟩;refine rX [7,8] I ?_;clear I a;intro a I;refine ah (by kernel_rfl) ?_ _;refine rE 1 I ?_;clear I a;intro a I
   replace I:=I.kp [2,3] rfl;refine rC 1 I ?_;clear I a;intro a I;refine hQ _ _ _ ?_;refine F2 I rfl rfl rfl ?_;have eL:=EM hr (by omega);rw[hns1,eL];exact⟨_,_,rfl,bY O⟩
theorem Bm (W:World)(A:Option Addr)(c:Nat)(xs:List bq)(hR:j7 W A c xs)(hl:xs.length≤1000000000000):Calls Tryz.prog 204 #[.slice A (xs).length c] W fun e w'=>e=.returned (.int .i64 (cV (ar xs)))∧Sat W w' []:=by
 refine bP Tryz.func204 [0] ?_;intro a I;refine FA fun Q _ hQ=>?_;have O:=Sat.start W;refine rC 14 I ?_;clear I a;refine uF rfl (lp _ A c xs (hR.sat O) hl) ?_;rintro e w ⟨A1,c1,rfl,hT⟩;replace O:=O.au hT;clear hT;have hcn1:=eo xs;have hnl1:=cH xs;generalize hns1:ar xs=ns at O hcn1 hnl1 ⊢;refine u1 4 (ak rfl bR) ?_;intro a I;refine wp_loop_ghost (fun (mm:Nat) a w=>∃(i:Nat),Ag a 23 [(3,.int .i64 (cV (ns.take i))),(7,.slice A1 (ns).length c1),(8,.int .i64 ((ns.length:Nat):Int)),(9,.int .i64 ((i:Nat):Int))]∧Sat W w ([eR 357 A1 c1 ns])∧(i≤ns.length)∧mm=ns.length-i) ns.length ?_ ?_
 ·replace I:=I.kp [3,7,8,9] rfl;exact⟨0,I,O,(by omega),by omega⟩
 intro m a w hI;clear O I;obtain⟨i,I,O,hi,rfl⟩:=hI;refine rC 2 I ?_;clear I a;refine aK 0 0 (aq rfl rfl) ?_ ?_
 ·intro h10;refine uO 10 ?_;obtain⟨A1_p,rfl⟩:∃q,A1=some q:=O.rd.ao (by omega);obtain⟨r,hr⟩:∃zz_,ns[i]?=some zz_:=⟨_,List.getElem?_eq_getElem (by omega)⟩;have hb1:=sy hcn1 i;have hrb:=hcn1.each r (List.mem_of_getElem? hr);intro a I;rw[dI]at hrb;refine o1 0 I (fV (I.ev rfl) (I.ev rfl) bR dw (by omega) (by omega)) ?_;clear I a;refine u1 0 (ax (cs:=gS r) rfl sM dw (fun j u e=>bI O.rd (eD hr j u e))) ?_;refine uN pn O ?_;clear O;intro b5 w O;refine uW (vs:=[_,_]) (cs':=[_,_]) rfl rfl dw O ?_;clear O;intro w O;refine uO 4 ?_;refine u1 0 (aa rfl dV) ?_;refine u1 0 (ld rfl) ?_;refine u1 0 (aa rfl gr) ?_;refine u1 0 (ld rfl) ?_;refine u1 0 (sb rfl rfl) ?_;refine u1 0 (ad rfl rfl) ?_;refine u1 5 (ad rfl rfl) ?_;refine u1 2 (ad rfl rfl) ?_;intro a I;replace I:=I.kp [3,7,8,9] rfl
  have e1:cV (ns.take (i+1))=cV (ns.take i)+(r.2-r.1+1):=by rw[ay hr,qR];simp[cV]
  refine⟨ns.length-(i+1),by omega,i+1,?_,O.drop,by omega,rfl⟩;rw[e1];exact I
 ·intro h10;refine uO 16 ?_;intro a I;refine hQ _ _ _ ?_;refine DK I rfl rfl ?_;have e1:ns.take i=ns:=List.take_of_length_le (by omega);rw[e1,hns1];exact⟨rfl,O.nil⟩
theorem xZ (W:World)(A:Option Addr)(c:Nat)(xs:List bq)(hR:j7 W A c xs)(hl:xs.length≤1000000000000)(hc:can xs):Calls Tryz.prog 403 #[.slice A (xs).length c] W fun e w'=>∃A' c',e=.returned (.slice A' (ly 1 xs).length c')∧Sat W w' [eR 357 A' c' (ly 1 xs)]:=by
 refine bP Tryz.func403 [0] ?_;have O:=Sat.start W;refine uC 19 ?_;refine u1 4 (ak rfl bR) ?_;intro a I;refine wp_loop_ghost (fun (mm:Nat) a w=>∃(i:Nat) (next:Int) (out:List bq) (Ao:Option Addr) (co:Nat),Ag a 37 [(3,.slice Ao (out).length co),(4,.int .i64 next),(7,.slice A (xs).length c),(8,.int .i64 ((xs.length:Nat):Int)),(9,.int .i64 ((i:Nat):Int))]∧Sat W w ([eR 357 Ao co out])∧(i≤xs.length)∧(1≤next)∧(next≤1000000001)∧(out.length≤i)∧(out++ly next (xs.drop i)=ly 1 xs)∧mm=xs.length-i) xs.length ?_ ?_
 ·replace I:=I.kp [3,4,7,8,9] rfl;exact⟨0,1,[],none,0,I,(O.aX 357 2),(by omega),(by omega),(by omega),(by simp),(by rfl),by omega⟩
 intro m a w hI;clear O I;obtain⟨i,next,out,Ao,co,I,O,hi,hn1,hn2,hol,ho,rfl⟩:=hI;refine rC 2 I ?_;clear I a;refine aK 0 0 (aq rfl rfl) ?_ ?_
 ·intro h10;refine uO 10 ?_;obtain⟨A_p,rfl⟩:∃q,A=some q:=(hR.sat O).ao (by omega);obtain⟨r,hr⟩:∃zz_,xs[i]?=some zz_:=⟨_,List.getElem?_eq_getElem (by omega)⟩;have hrb:=hc.each r (List.mem_of_getElem? hr);intro a I;rw[dI]at hrb;refine o1 0 I (fV (I.ev rfl) (I.ev rfl) bR dw (by omega) (by omega)) ?_;clear I a;refine u1 0 (ax (cs:=gS r) rfl sM dw (fun j u e=>bI (hR.sat O) (eD hr j u e))) ?_;refine uN pn O ?_;clear O;intro b6 w O;refine uW (vs:=[_,_]) (cs':=[_,_]) rfl rfl dw O ?_;clear O;intro w O;refine uO 6 ?_;refine u1 0 (aa rfl gr) ?_;refine u1 0 (ld rfl) ?_;refine aK 0 0 (aq rfl rfl) ?_ ?_
  ·intro h16;refine uO 6 ?_;refine u1 0 (aa rfl gr) ?_;refine u1 0 (ld rfl) ?_;refine u1 0 (sb rfl rfl) ?_;intro a I;refine o1 0 I (aM I rfl kC) ?_;clear I a;intro a I;refine jf (vss:=[[_,_]]) I rfl rfl bR iB rfl rfl rfl (by simp) rfl O ?_;clear I a O;intro A23 w O;intro a I;refine dj I rfl rfl rfl bR iB rfl (O.p 2) (O.rd.src bR (by simp[Value.oneCell'])) (by omega) (by omega) ?_;clear I a O;intro A24 c24 w hc24 O;refine uO 4 ?_;refine u1 0 (aa rfl dV) ?_;refine u1 0 (ld rfl) ?_;refine u1 5 (ad rfl rfl) ?_;refine u1 2 (ad rfl rfl) ?_;intro a I;replace I:=I.kp [3,4,7,8,9] rfl;rw[aC hr,yK,if_pos h16,←List.append_assoc]at ho;refine⟨xs.length-(i+1),by omega,i+1,r.2+1,out++[(next,r.1-1)],A24,c24,?_,fW (bY O) (by simp) (by simp[gS]),by omega,by omega,by omega,by simp;omega,ho,rfl⟩
   rw[List.length_append];exact I
  ·intro h16;refine uO 6 ?_;refine u1 0 (aa rfl dV) ?_;refine u1 0 (ld rfl) ?_;refine u1 5 (ad rfl rfl) ?_;refine u1 2 (ad rfl rfl) ?_;intro a I;replace I:=I.kp [3,4,7,8,9] rfl;rw[aC hr,yK,if_neg h16,List.nil_append]at ho;exact⟨xs.length-(i+1),by omega,i+1,r.2+1,out,Ao,co,I,O.drop,by omega,by omega,by omega,by omega,ho,rfl⟩
 ·intro h10;refine uO 13 ?_;refine aK 0 0 (dU rfl rfl) ?_ ?_
  ·intro h30;refine uO 2 ?_;intro a I;replace I:=I.kp [3,4,30] rfl;refine rC 4 I ?_;clear I a;intro a I;refine o1 0 I (aM I rfl kC) ?_;clear I a;intro a I;refine jf (vss:=[[_,_]]) I rfl rfl bR iB rfl rfl rfl (by simp) rfl O ?_;clear I a O;intro A34 w O;intro a I;refine dj I rfl rfl rfl bR iB rfl (O.p 1) (O.rd.src bR (by simp[Value.oneCell'])) (by omega) (by omega) ?_;clear I a O;intro A35 c35 w hc35 O;refine uO 10 ?_;refine aS ?_;rw[List.drop_of_length_le (by omega),BB,dI,if_pos h30]at ho;rw[←ho];exact⟨_,_,pM (by simp),fW (bY O) (by simp) (by simp[gS])⟩
  ·intro h30;refine uO 2 ?_;intro a I;replace I:=I.kp [3,4,30] rfl;refine rC 10 I ?_;clear I a;refine aS ?_;rw[List.drop_of_length_le (by omega),BB,dI,if_neg h30,List.append_nil]at ho;rw[←ho];exact⟨_,_,rfl,O⟩
theorem oD {x y:List bq}{i j:Nat}{p q:bq}(hp:x[i]?=some p)(hq:y[j]?=some q):dP (x.drop i) (y.drop j)=(if max p.1 q.1≤min p.2 q.2 then [(max p.1 q.1,min p.2 q.2)] else [])++(if p.2<q.2 then dP (x.drop (i+1)) (y.drop j) else dP (x.drop i) (y.drop (j+1))):=by
 rw[aC hp,aC hq,qb]
theorem Di {x y:List bq}{i j:Nat}(h:x.length≤i):dP (x.drop i) (y.drop j)=[]:=by rw[List.drop_of_length_le h];cases y.drop j<;>simp[dP]
theorem Dv {x y:List bq}{i j:Nat}(h:y.length≤j):dP (x.drop i) (y.drop j)=[]:=by rw[List.drop_of_length_le h,wk]
theorem AI (W:World)(A:Option Addr)(c:Nat)(xs:List bq)(B:Option Addr)(d:Nat)(ys:List bq)(hX:j7 W A c xs)(hY:j7 W B d ys)(hlx:xs.length≤1000000000000)(hly:ys.length≤1000000000000):Calls Tryz.prog 402 #[.slice A (xs).length c,.slice B (ys).length d] W fun e w'=>∃A' c',e=.returned (.slice A' (dP (ar xs) (ar ys)).length c')∧Sat W w' [eR 357 A' c' (dP (ar xs) (ar ys))]:=by
 refine bP Tryz.func402 [0,1] ?_;intro a I;refine FA fun Q _ hQ=>?_;have O:=Sat.start W;refine rC 8 I ?_;clear I a;refine uF rfl (lp _ A c xs (hX.sat O) hlx) ?_;rintro e w ⟨A1,c1,rfl,hT⟩;replace O:=O.au hT;clear hT;have hcn1:=eo xs;have hnl1:=cH xs;generalize hns1:ar xs=ns at O hcn1 hnl1 ⊢;refine uO 1 ?_;refine uF rfl (lp _ B d ys (hY.sat O) hly) ?_;rintro e w ⟨A2,c2,rfl,hT⟩;replace O:=O.au hT;clear hT;have hcn2:=eo ys;have hnl2:=cH ys;generalize hns2:ar ys=ms at O hcn2 hnl2 ⊢;refine uO 17 ?_;intro a I
 refine wp_loop_ghost (fun (mm:Nat) a w=>∃(i j:Nat) (out:List bq) (Ao:Option Addr) (co:Nat),Ag a 73 [(5,.slice A1 (ns).length c1),(6,.slice A2 (ms).length c2),(7,.slice Ao (out).length co),(8,.int .i64 ((i:Nat):Int)),(9,.int .i64 ((j:Nat):Int))]∧Sat W w ([eR 357 Ao co out,eR 357 A2 c2 ms,eR 357 A1 c1 ns])∧(i≤ns.length)∧(j≤ms.length)∧(out.length≤i+j)∧(out++dP (ns.drop i) (ms.drop j)=dP ns ms)∧mm=ns.length+ms.length-(i+j)) (ns.length+ms.length) ?_ ?_
 ·replace I:=I.kp [5,6,7,8,9] rfl;exact⟨0,0,[],none,0,I,(O.aX 357 2),(by omega),(by omega),(by simp),(by rfl),by omega⟩
 intro m a w hI;clear O I;obtain⟨i,j,out,Ao,co,I,O,hi,hj,hol,ho,rfl⟩:=hI;refine rC 5 I ?_;clear I a;refine u1 0 (ak rfl bR) ?_;refine aK 0 0 (aq rfl rfl) ?_ ?_
 ·intro h18;refine uO 3 ?_;refine u1 0 (ak rfl bR) ?_;refine aK 0 0 (aq rfl rfl) ?_ ?_
  ·intro h23;obtain⟨p,hp⟩:∃p,ns[i]?=some p:=⟨_,List.getElem?_eq_getElem (by omega)⟩;obtain⟨q,hq⟩:∃q,ms[j]?=some q:=⟨_,List.getElem?_eq_getElem (by omega)⟩;obtain⟨A1_p,rfl⟩:∃q,A1=some q:=(O.p 2).rd.ao (by omega);obtain⟨A2_p,rfl⟩:∃q,A2=some q:=(O.p 1).rd.ao (by omega);refine uO 8 ?_;intro a I;refine bj [24] O (by kernel_rfl) ?_;replace O:=O.drew;refine rX [0,1] I ?_;clear I a
   refine bx 2 [] rfl (fun w=>(ix rfl rfl bR dw)) ?_;refine bx 3 [] rfl (fun w=>(aw rfl gr)) ?_;refine cP 4 [5,6] rfl (by exact⟨[],O⟩) (fun w hT=>have O:=hT.sat;(aj rfl dE (bI (O.p 2).rd (eD hp 0 _ rfl)))) ?_;refine bx 7 [] rfl (fun w=>(ix rfl rfl bR dw)) ?_;refine bx 8 [] rfl (fun w=>(aw rfl gr)) ?_;refine cP 9 [] rfl (by exact⟨[],O⟩) (fun w hT=>have O:=hT.sat;(aj rfl dE (bI (O.p 1).rd (eD hq 0 _ rfl)))) ?_;refine bx 10 [11,12] rfl (fun w=>(ue rfl rfl)) ?_;refine bx 13 [] rfl (fun w=>(ix rfl rfl bR dw)) ?_;refine bx 14 [] rfl (fun w=>(aw rfl dV)) ?_;refine cP 15 [16,17] rfl (by exact⟨[],O⟩) (fun w hT=>have O:=hT.sat;(aj rfl dE (bI (O.p 2).rd (eD hp 1 _ rfl)))) ?_;refine bx 18 [] rfl (fun w=>(ix rfl rfl bR dw)) ?_;refine bx 19 [] rfl (fun w=>(aw rfl dV)) ?_;refine cP 20 [] rfl (by exact⟨[],O⟩) (fun w hT=>have O:=hT.sat;(aj rfl dE (bI (O.p 1).rd (eD hq 1 _ rfl)))) ?_;refine bx 21 [] rfl (fun w=>(yg rfl rfl)) ?_
   intro a I;refine P1 22 [] I rfl (fun w=>(aM I rfl kC)) ?_;clear I a;intro a I;refine aD 23 (by kernel_rfl) ?_;refine eN I rfl rfl pn O ?_;clear I a O;intro b10 w O;intro a I;refine⟨.inr fun _=>(by exact⟨[_],O⟩),?_⟩;refine aD 24 (by kernel_rfl) ?_;refine dr (vs:=[_,_]) (cs':=[_,_]) I rfl rfl rfl dw (by simp[Value.oneCell']) O rfl rfl ?_;clear O;intro w O;refine⟨.inl rfl,?_⟩;refine ah (by kernel_rfl) ?_ _;refine rE 4 I ?_;clear I a;refine u1 0 (aa rfl gr) ?_;refine u1 0 (ld rfl) ?_;refine u1 0 (aa rfl dV) ?_;refine u1 0 (ld rfl) ?_;refine aK 0 0 (dU rfl rfl) ?_ ?_
   ·intro h52;refine uO 5 ?_;refine u1 0 (lS (cs:=[_,_]) rfl) ?_;intro a I;refine jf (vss:=[[_,_]]) I rfl rfl bR iB rfl rfl rfl (by simp) rfl O ?_;clear I a O;intro A55 w O;intro a I;refine dj I rfl rfl rfl bR iB rfl (O.p 2) (O.rd.src bR (by simp[Value.oneCell'])) (by omega) (by omega) ?_;clear I a O;intro A56 c56 w hc56 O;refine uO 4 ?_;intro a I;refine cD (fun w'=>Sat _ w' _) (by kernel_rfl) (by kernel_rfl) O.drew ?_;refine rQ 2 I ?_;clear I a;refine bc 0 (fun w O=>(ix rfl rfl bR dw)) ?_;refine bc 0 (fun w O=>(aw rfl dV)) ?_;refine bc 2 (fun w O=>(aj rfl dE (bI (O.p 4).rd (eD hp 1 _ rfl)))) ?_;refine bc 0 (fun w O=>(ix rfl rfl bR dw)) ?_;refine bc 0 (fun w O=>(aw rfl dV)) ?_;refine bc 0 (fun w O=>(aj rfl dE (bI (O.p 3).rd (eD hq 1 _ rfl)))) ?_
    intro a I;refine K.rn I rfl rfl rfl (fun w O=>(aq (I.ev rfl) (I.ev rfl))) ?_ ?_
    ·clear I a;intro h67;intro a I;refine wpQuiet_nil ?_;clear O;intro w O;refine rE 4 I ?_;clear I a;refine u1 3 (ad rfl rfl) ?_;intro a I;replace I:=I.kp [5,6,7,8,9] rfl;rw[oD hp hq,if_pos h52,if_pos h67,←List.append_assoc]at ho;refine⟨ns.length+ms.length-(i+1+(j)),by omega,i+1,j,out++[(max p.1 q.1,min p.2 q.2)],A56,c56,?_,fW (pw (((O.p 4).p 4).p 2)) (by simp) (by simp[gS]),by omega,by omega,by simp;omega,ho,rfl⟩;rw[List.length_append];exact I
    ·clear I a;intro h67;intro a I;refine wpQuiet_nil ?_;clear O;intro w O;refine rE 4 I ?_;clear I a;refine u1 3 (ad rfl rfl) ?_;intro a I;replace I:=I.kp [5,6,7,8,9] rfl;rw[oD hp hq,if_pos h52,if_neg h67,←List.append_assoc]at ho;refine⟨ns.length+ms.length-(i+(j+1)),by omega,i,j+1,out++[(max p.1 q.1,min p.2 q.2)],A56,c56,?_,fW (pw (((O.p 4).p 4).p 2)) (by simp) (by simp[gS]),by omega,by omega,by simp;omega,ho,rfl⟩;rw[List.length_append];exact I
   ·intro h52;refine uO 6 ?_;intro a I;refine cD (fun w'=>Sat _ w' _) (by kernel_rfl) (by kernel_rfl) O.drew ?_;refine rQ 2 I ?_;clear I a;refine bc 0 (fun w O=>(ix rfl rfl bR dw)) ?_;refine bc 0 (fun w O=>(aw rfl dV)) ?_;refine bc 2 (fun w O=>(aj rfl dE (bI (O.p 3).rd (eD hp 1 _ rfl)))) ?_;refine bc 0 (fun w O=>(ix rfl rfl bR dw)) ?_;refine bc 0 (fun w O=>(aw rfl dV)) ?_;refine bc 0 (fun w O=>(aj rfl dE (bI (O.p 2).rd (eD hq 1 _ rfl)))) ?_;intro a I;refine K.rn I rfl rfl rfl (fun w O=>(aq (I.ev rfl) (I.ev rfl))) ?_ ?_
    ·clear I a;intro h67;intro a I;refine wpQuiet_nil ?_;clear O;intro w O;refine rE 4 I ?_;clear I a;refine u1 3 (ad rfl rfl) ?_;intro a I;replace I:=I.kp [5,6,7,8,9] rfl;rw[oD hp hq,if_neg h52,if_pos h67,List.nil_append]at ho;exact⟨ns.length+ms.length-(i+1+(j)),by omega,i+1,j,out,Ao,co,I,O.drop,by omega,by omega,by omega,ho,rfl⟩
    ·clear I a;intro h67;intro a I;refine wpQuiet_nil ?_;clear O;intro w O;refine rE 4 I ?_;clear I a;refine u1 3 (ad rfl rfl) ?_;intro a I;replace I:=I.kp [5,6,7,8,9] rfl;rw[oD hp hq,if_neg h52,if_neg h67,List.nil_append]at ho;exact⟨ns.length+ms.length-(i+(j+1)),by omega,i,j+1,out,Ao,co,I,O.drop,by omega,by omega,by omega,ho,rfl⟩
  ·intro h23;refine uO 9 ?_;intro a I;replace I:=I.kp [7] rfl;refine rC 7 I ?_;clear I a;intro a I;refine hQ _ _ _ ?_;refine DK I rfl rfl ?_;rw[Dv (by omega),List.append_nil]at ho;rw[hns1,hns2,←ho];exact⟨_,_,rfl,bY O⟩
 ·intro h18;refine uO 14 ?_;intro a I;replace I:=I.kp [7] rfl;refine rC 7 I ?_;clear I a;intro a I;refine hQ _ _ _ ?_;refine DK I rfl rfl ?_;rw[Di (by omega),List.append_nil]at ho;rw[hns1,hns2,←ho];exact⟨_,_,rfl,bY O⟩
theorem sx (W:World)(A:Option Addr)(c:Nat)(xs:List bq)(B:Option Addr)(d:Nat)(ys:List bq)(hX:j7 W A c xs)(hY:j7 W B d ys)(hlx:xs.length≤100000000000)(hly:ys.length≤100000000000):Calls Tryz.prog 388 #[.slice A (xs).length c,.slice B (ys).length d] W fun e w'=>∃A' c',e=.returned (.slice A' (en (ar xs) (ar ys)).length c')∧Sat W w' [eR 357 A' c' (en (ar xs) (ar ys))]:=by
 refine bP Tryz.func388 [0,1] ?_;intro a I;refine FA fun Q _ hQ=>?_;have O:=Sat.start W;refine rC 9 I ?_;clear I a;refine uF rfl (lp _ B d ys (hY.sat O) (by omega)) ?_;rintro e w ⟨A1,c1,rfl,hT⟩;replace O:=O.au hT;clear hT;have hcn1:=eo ys;have hnl1:=cH ys;generalize hns1:ar ys=ns at O hcn1 hnl1 ⊢;refine uF rfl (xZ _ A1 c1 ns O.rd (by omega) hcn1) ?_;rintro e w ⟨A2,c2,rfl,hT⟩;replace O:=O.au hT;clear hT;refine uF rfl (AI _ A c xs A2 c2 (ly 1 ns) (hX.sat O) O.rd (by omega) (Nat.le_trans (pV ns 1) (by omega))) ?_;rintro e w ⟨A3,c3,rfl,hT⟩;replace O:=O.au hT;clear hT;refine uO 4 ?_;intro a I;refine hQ _ _ _ ?_;refine DK I rfl rfl ?_;rw[tY (xu hcn1)]at O ⊢;rw[hns1];exact⟨_,_,rfl,bY O⟩
theorem x8 (W:World)(A:Option Addr)(c:Nat)(xs:List bq)(B:Option Addr)(d:Nat)(ys:List bq)(hX:j7 W A c xs)(hY:j7 W B d ys)(hlx:xs.length≤100000000000)(hly:ys.length≤100000000000):Calls Tryz.prog 370 #[.slice A (xs).length c,.slice B (ys).length d] W fun e w'=>e=.returned (.bool (decide (en (ar xs) (ar ys)=[])))∧Sat W w' []:=by
 refine bP Tryz.func370 [0,1] ?_;have O:=Sat.start W;refine uC 9 ?_;refine uF rfl (sx _ A c xs B d ys (hX.sat O) (hY.sat O) hlx hly) ?_;rintro e w ⟨A3,c3,rfl,hT⟩;replace O:=O.au hT;clear hT;refine u1 0 (ak rfl bR) ?_;refine u1 4 (aY rfl rfl) ?_;refine aS ?_;refine⟨?_,O.nil⟩
 congr 2
 rw[decide_eq_decide];constructor
 ·intro h;exact List.eq_nil_of_length_eq_zero (by omega)
 ·intro h;rw[h];rfl
def gl (vec:List Int)(p:Option aN)(s:aN):Bool:=decide (0≤s.rep) && decide (s.rep<16) && decide (s.lo≤s.hi) && decide (s.hi≤1000000000) && match p with
 | none=>decide (av vec s.rep.toNat+2≤s.lo)
 | some q=>decide (q.rep≤s.rep) && (if q.rep=s.rep then decide (q.hi+2≤s.lo) else decide (av vec s.rep.toNat+2≤s.lo))
structure AD (p:aJ):Prop where
 len:p.vec.length≤16
 vec:∀v∈p.vec,0≤v∧v≤1000000000
 ab:kz (gl p.vec) none p.ab=true
structure yN (p:aJ):Prop extends AD p where
 last:∀v,p.vec.getLast?=some v→v≠0
theorem dt {v:List Int}(h:∀x∈v,0≤x∧x≤1000000000)(r:Nat):0≤av v r∧av v r≤1000000000:=by
 unfold av;cases e:v[r]? with
 | none=>simp
 | some x=>exact h x (List.mem_of_getElem? e)
theorem qq {vec:List Int}:∀ {c:List aN} {p:Option aN},kz (gl vec) p c=true→∀s∈c,0≤s.rep∧s.rep<16∧s.lo≤s.hi∧s.hi≤1000000000
 | s :: c, p, h, t, ht => by
   rw[kz,Bool.and_eq_true]at h;rcases List.mem_cons.1 ht with rfl | ht
   ·
    have h1:=h.1;unfold gl at h1;simp only[Bool.and_eq_true,decide_eq_true_eq]at h1;exact⟨h1.1.1.1.1,h1.1.1.1.2,h1.1.1.2,h1.1.2⟩
   ·
    exact qq h.2 t ht
theorem qN {vec:List Int}(hv:∀r,0≤av vec r):∀ {c:List aN} {q:aN},kz (gl vec) (some q) c=true→q.lo≤q.hi→av vec q.rep.toNat+2≤q.lo→∀s∈c,q.rep≤s.rep∧(q.rep=s.rep→q.hi+2≤s.lo)∧av vec s.rep.toNat+2≤s.lo
 | s :: c, q, h, hq, hq2, t, ht => by
   rw[kz,Bool.and_eq_true]at h;have h1:=h.1;unfold gl at h1;simp only[Bool.and_eq_true,decide_eq_true_eq]at h1
   have hs:av vec s.rep.toNat+2≤s.lo:=by
    by_cases e:q.rep=s.rep
    ·
     have:=h1.2.2;rw[if_pos e]at this;simp at this;rw[←e];omega
    ·
     have:=h1.2.2;rw[if_neg e]at this;simpa using this
   have hs2:q.rep=s.rep→q.hi+2≤s.lo:=fun e=>by have:=h1.2.2;rw[if_pos e]at this;simpa using this
   rcases List.mem_cons.1 ht with rfl | ht
   ·
    exact⟨h1.2.1,hs2,hs⟩
   ·
    obtain⟨a,b,d⟩:=qN hv h.2 h1.1.1.2 hs t ht;refine⟨by omega,fun e=>?_,d⟩;have e1:q.rep=s.rep:=by omega
    have:=hs2 e1;have:=b (by omega);omega
theorem tz {vec:List Int}(hv:∀r,0≤av vec r){c:List aN}(h:kz (gl vec) none c=true):∀s∈c,av vec s.rep.toNat+2≤s.lo:=by
 cases c with
 | nil=>intro s hs;cases hs
 | cons s c =>
   rw[kz,Bool.and_eq_true]at h;have h1:=h.1;unfold gl at h1;simp only[Bool.and_eq_true,decide_eq_true_eq]at h1;intro t ht;rcases List.mem_cons.1 ht with rfl | ht
   ·
    exact h1.2
   ·
    exact (qN hv h.2 h1.1.1.2 h1.2 t ht).2.2
theorem nj (s:aN)(c:List aN)(r:Nat):bQ (s::c) r=(if s.rep=(r:Int) then [(s.lo,s.hi)] else [])++bQ c r:=by
 unfold bQ;rw[List.filterMap_cons]
 split<;>rename_i h<;>split at h<;>simp_all
theorem nY {c:List aN}{r:Nat}{x:bq}(h:x∈bQ c r):∃s∈c,s.rep=(r:Int)∧x=(s.lo,s.hi):=by
 obtain⟨s,hs,h⟩:=List.mem_filterMap.1 h
 split at h
 ·
  rename_i e;cases h;exact⟨s,hs,e,rfl⟩
 ·
  cases h
theorem sB {vec:List Int}(hv:∀r,0≤av vec r):∀ {c:List aN} {p:Option aN},kz (gl vec) p c=true→(∀s∈c,av vec s.rep.toNat+2≤s.lo)→∀r,can (bQ c r)
 | [],_,_,_,r=>trivial
 | s :: c, p, h, hb, r => by
   have hsp:=qq h s (by simp);rw[kz,Bool.and_eq_true]at h;have ih:=sB hv h.2 (fun t ht=>hb t (by simp[ht])) r;rw[nj]
   by_cases e:s.rep=(r:Int)
   ·
    rw[if_pos e];have hs:=hb s (by simp);have:=hv s.rep.toNat;refine⟨by simp only;omega,by simp only;omega,by rw[dI];simp only;omega,fun x hx=>?_,ih⟩;obtain⟨t,ht,h1,rfl⟩:=nY hx;have:=(qN hv h.2 hsp.2.2.1 hs t ht).2.1 (by omega);simp only;omega
   ·
    rw[if_neg e];exact ih
def pT (p:aJ)(r:Nat):List bq:=(if 0<av p.vec r then [(1,av p.vec r)] else [])++bQ p.ab r
theorem uK {p:aJ}(h:AD p)(r:Nat):can (pT p r):=by
 have hv:=fun r=>dt h.vec r
 have hb:=tz (fun r=>(hv r).1) h.ab;have hc:=sB (fun r=>(hv r).1) h.ab hb r;unfold pT
 split
 ·
  rename_i h0;refine⟨Int.le_refl _,by simp only;omega,by rw[dI];have:=(hv r).2;simp only;omega,fun x hx=>?_,hc⟩;obtain⟨s,hs,e,rfl⟩:=nY hx;have:=hb s hs;rw[e]at this;simp at this;simp only;omega
 ·
  exact hc
theorem ss {p:aJ}(h:AD p)(r:Nat):aO p r=pT p r:=by
 refine (oA (uK h r) fun n=>?_).symm;constructor
 ·
  intro hn;have hb:=(uK h r).bounds hn;refine⟨hb.1,hb.2,?_⟩;unfold pT at hn;unfold cN;rw[dL]at *;rcases hn with hn | hn
  ·
   left
   split at hn
   ·
    rename_i h0;unfold av at h0 hn;cases e:p.vec[r]? with
    | none=>rw[e]at h0;simp at h0
    | some x=>rw[e]at hn;simpa using hn
   ·
    simp[bG]at hn
  ·
   exact .inr hn
 ·
  rintro ⟨h1,h2,hn⟩;unfold pT;unfold cN at hn;rw[dL]at *;rcases hn with hn | hn
  ·
   left
   cases e:p.vec[r]? with
   | none=>rw[e]at hn;simp[bG]at hn
   | some x =>
     rw[e]at hn;have hx:av p.vec r=x:=by unfold av;rw[e]
     rw[hx];simp[bG]at hn;rw[if_pos (by omega)];simp[bG];omega
  ·
   exact .inr hn
theorem w5 {p:aJ}(h:AD p)(r:Nat):aQ (pT p r)=(av p.vec r,bQ p.ab r):=by
 have hv:=fun r=>dt h.vec r
 unfold pT
 split
 ·
  rfl
 ·
  rename_i h0;have h0:av p.vec r=0:=by have:=(hv r).1;omega
  rw[List.nil_append,h0];cases e:bQ p.ab r with
  | nil=>rfl
  | cons x l =>
    rw[fY];have hx:x∈bQ p.ab r:=by rw[e];simp
    obtain⟨s,hs,e2,rfl⟩:=nY hx;have:=tz (fun r=>(hv r).1) h.ab s hs;rw[e2]at this;simp at this;rw[if_neg (by simp only;omega)]
theorem ey {v:List Int}{r:Nat}(h:v.length≤r):av v r=0:=by unfold av;rw[List.getElem?_eq_none h]
theorem vw {v:List Int}(hv:∀x∈v,0≤x∧x≤1000000000)(hl:∀x,v.getLast?=some x→x≠0){f:Nat→Int}(hf:∀r,f r=av v r):∀k,v.length≤k→cE f k=v.length
 | 0, h => by have : v.length = 0 := by omega
              rw[this];rfl
 | k + 1, h => by
   rw[cE]
   by_cases e:v.length=k+1
   ·
    have hk:k<v.length:=by omega
    have h1:v.getLast?=some v[k]:=by rw[List.getLast?_eq_getElem?,e];simp[hk]
    have h2:=hl _ h1;have h3:=hv v[k] (List.getElem_mem hk);have h4:f k=v[k]:=by rw[hf,av,List.getElem?_eq_getElem hk]
    rw[if_pos (by omega),e]
   ·
    have h4:f k=0:=by rw[hf,ey (by omega)]
    rw[if_neg (by omega)];exact vw hv hl hf k (by omega)
theorem n5 {α β:Type _}{l:List α}{f g:α→List β}(h:∀x∈l,f x=g x):l.flatMap f=l.flatMap g:=by
 induction l with
 | nil=>rfl
 | cons x l ih=>rw[List.flatMap_cons,List.flatMap_cons,h x (by simp),ih fun y hy=>h y (by simp[hy])]
theorem vv:∀(c:List aN) (a k:Nat),(∀s∈c,(a:Int)≤s.rep∧s.rep<(a+k:Nat))→c.Pairwise (fun s t=>s.rep≤t.rep)→(List.range' a k).flatMap (fun r=>(bQ c r).map fun x=>(⟨(r:Int),x.1,x.2⟩:aN))=c
 | [], a, k, _, _ => by
   rw[List.flatMap_eq_nil_iff];intro r _;rfl
 | s :: c, a, k, h, hp => by
   obtain⟨j,hj⟩:∃j:Nat,s.rep=(j:Int):=⟨s.rep.toNat,by have:=(h s (by simp)).1;omega⟩;have hs:=h s (by simp);have hle:=(List.pairwise_cons.1 hp).1
   have e1:List.range' a k=List.range' a (j-a)++(List.range' j 1++List.range' (j+1) (a+k-j-1)):=by
    have h1:k=(j-a)+(1+(a+k-j-1)):=by omega
    have h2:a+1 * (j-a)=j:=by omega
    conv=>lhs;rw[h1,←List.range'_append,h2,←List.range'_append,Nat.mul_one]
   have e2:List.range' j (a+k-j)=List.range' j 1++List.range' (j+1) (a+k-j-1):=by
    have h1:a+k-j=1+(a+k-j-1):=by omega
    conv=>lhs;rw[h1,←List.range'_append,Nat.mul_one]
   have ih:=vv c j (a+k-j) (fun t ht=>by have:=hle t ht;have:=(h t (by simp[ht])).2;omega) (List.pairwise_cons.1 hp).2;rw[e1,List.flatMap_append]
   have z:(List.range' a (j-a)).flatMap (fun r=>(bQ (s::c) r).map fun x=>(⟨(r:Int),x.1,x.2⟩:aN))=[]:=by
    rw[List.flatMap_eq_nil_iff];intro r hr;rw[List.mem_range'_1]at hr;rw[List.map_eq_nil_iff];refine List.filterMap_eq_nil_iff.2 fun t ht=>?_;rw[if_neg];rcases List.mem_cons.1 ht with rfl | ht
    ·
     omega
    ·
     have:=hle t ht;omega
   rw[z,List.nil_append,List.flatMap_append];rw[e2,List.flatMap_append]at ih
   have y:(List.range' (j+1) (a+k-j-1)).flatMap (fun r=>(bQ (s::c) r).map fun x=>(⟨(r:Int),x.1,x.2⟩:aN))=(List.range' (j+1) (a+k-j-1)).flatMap (fun r=>(bQ c r).map fun x=>(⟨(r:Int),x.1,x.2⟩:aN)):=by
    refine n5 fun r hr=>?_;rw[List.mem_range'_1]at hr;rw[nj,if_neg (by omega),List.nil_append]
   rw[y];simp only[List.range'_one,List.flatMap_cons,List.flatMap_nil,List.append_nil]at ih ⊢;rw[nj,if_pos hj,List.map_append,List.append_assoc,ih,←hj]
   rfl
theorem zn {vec:List Int}(hv:∀r,0≤av vec r):∀ {c:List aN} {p:Option aN},kz (gl vec) p c=true→(∀s∈c,av vec s.rep.toNat+2≤s.lo)→c.Pairwise (fun s t=>s.rep≤t.rep)
 | [],_,_,_=>.nil
 | s :: c, p, h, hb => by
   have hsp:=qq h s (by simp);rw[kz,Bool.and_eq_true]at h;exact .cons (fun t ht=>(qN hv h.2 hsp.2.2.1 (hb s (by simp)) t ht).1) (zn hv h.2 fun t ht=>hb t (by simp[ht]))
theorem zC {p:aJ}(h:yN p):gR p=p:=by
 have hw:=h.toAD;have hv:=fun r=>dt hw.vec r
 have hl:∀r,bn (aO p) r=av p.vec r:=fun r=>by unfold bn;rw[ss hw,w5 hw]
 have hr:∀r,aP (aO p) r=(bQ p.ab r).map fun x=>(⟨(r:Int),x.1,x.2⟩:aN):=fun r=>by unfold aP;rw[ss hw,w5 hw]
 unfold gR fU
 have e1:(List.range (cE (bn (aO p)) 16)).map (bn (aO p))=p.vec:=by
  rw[vw hw.vec h.last hl 16 hw.len];refine List.ext_getElem? fun i=>?_;rw[List.getElem?_map]
  by_cases hi:i<p.vec.length
  ·
   rw[List.getElem?_range hi,List.getElem?_eq_getElem hi];simp only[Option.map_some];rw[hl,av,List.getElem?_eq_getElem hi]
  ·
   rw[List.getElem?_eq_none (by simpa using hi),List.getElem?_eq_none (by omega)];rfl
 have e2:(List.range 16).flatMap (aP (aO p))=p.ab:=by
  rw[List.range_eq_range',n5 (g:=fun r=>(bQ p.ab r).map fun x=>(⟨(r:Int),x.1,x.2⟩:aN)) fun r _=>hr r];exact vv p.ab 0 16 (fun s hs=>by have:=qq hw.ab s hs;omega) (zn (fun r=>(hv r).1) hw.ab (tz (fun r=>(hv r).1) hw.ab))
 rw[e1,e2]
theorem zl {vec:List Int}{r:Nat}(hr:r<16):∀ {l:List bq} {p:Option aN} {t:List aN},can l→(∀s∈l,av vec r+2≤s.1)→(∀q,p=some q→q.rep≤(r:Int)∧(q.rep=(r:Int)→∀s∈l,q.hi+2≤s.1))→
 (∀p':Option aN,(∀q,p'=some q→q.rep≤(r:Int))→kz (gl vec) p' t=true)→kz (gl vec) p (l.map (fun s=>(⟨(r:Int),s.1,s.2⟩:aN))++t)=true
 | [],p,t,_,_,hp,ht=>ht p fun q hq=>(hp q hq).1
 | s :: l, p, t, hl, hv, hp, ht => by
   rw[List.map_cons,List.cons_append,kz,Bool.and_eq_true];refine⟨?_,zl hr hl.tail (fun x hx=>hv x (by simp[hx])) (fun q hq=>?_) ht⟩
   ·
    have h2:=hl.2.1;have h3:=hl.2.2.1;rw[dI]at h3;have hv0:=hv s (by simp);unfold gl;simp only[Bool.and_eq_true,decide_eq_true_eq,Int.toNat_natCast];refine⟨⟨⟨⟨by omega,by omega⟩,h2⟩,h3⟩,?_⟩;cases p with
    | none=>simpa using hv0
    | some q =>
      obtain⟨a,b⟩:=hp q rfl;simp only[Bool.and_eq_true,decide_eq_true_eq];refine⟨a,?_⟩
      split
      ·
       rename_i e;simpa using b e s (by simp)
      ·
       simpa using hv0
   ·
    cases hq;refine⟨Int.le_refl _,fun _ x hx=>?_⟩;have:=hl.2.2.2.1 x hx;simp only;omega
theorem wC {vec:List Int}{f:Nat→List bq}(hf:∀r,can (f r))(hv:∀r,r<16→av vec r=(aQ (f r)).1):∀(k a:Nat),a+k=16→∀p:Option aN,(∀q,p=some q→q.rep<(a:Int))→kz (gl vec) p ((List.range' a k).flatMap (aP f))=true
 | 0,a,_,p,_=>by simp[kz]
 | k + 1, a, ha, p, hp => by
   rw[List.range'_succ,List.flatMap_cons];obtain⟨_,_,hc,hb,_⟩:=nO (hf a);refine zl (by omega) hc (fun s hs=>by rw[hv a (by omega)];have:=hb s hs;omega) (fun q hq=>⟨by have:=hp q hq;omega,fun e=>by have:=hp q hq;omega⟩) fun p' hp'=>?_;exact wC hf hv k (a+1) (by omega) p' fun q hq=>by have:=hp' q hq;omega
theorem tN {f:Nat→List bq}(hf:∀r,can (f r)):yN (fU f):=by
 have hvec:∀r,r<16→av (fU f).vec r=(aQ (f r)).1:=fun r hr=>by
  unfold fU av;simp only[List.getElem?_map]
  by_cases h:r<cE (bn f) 16
  ·
   rw[List.getElem?_range h];rfl
  ·
   rw[List.getElem?_eq_none (by simpa using h)];have h1:=pI (bn f) 16 r (by omega) hr;have h2:=(nO (hf r)).1;unfold bn at h1;show 0=_;omega
 refine⟨⟨?_,fun v hv=>?_,?_⟩,fun v hv=>?_⟩
 ·
  show ((List.range _).map _).length≤16;have:=mG (bn f) 16;simpa using this
 ·
  obtain⟨r,_,rfl⟩:=List.mem_map.1 hv;have h:=nO (hf r);rw[dI]at h;exact⟨h.1,h.2.1⟩
 ·
  show kz _ none ((List.range 16).flatMap (aP f))=true;rw[List.range_eq_range'];exact wC hf hvec 16 0 rfl none fun q hq=>by cases hq
 ·
  have hv:((List.range (cE (bn f) 16)).map (bn f)).getLast?=some v:=hv;rw[List.getLast?_eq_getElem?,List.getElem?_map]at hv;simp only[List.length_map,List.length_range]at hv;obtain⟨j,hj,rfl⟩:=Option.map_eq_some_iff.1 hv
  have h0:0<cE (bn f) 16:=by
   have:=(List.getElem?_eq_some_iff.1 hj).1;simp at this;omega
  rw[List.getElem?_range (by omega)]at hj;cases hj;have:=wT (bn f) 16 h0;omega
theorem iI (p:aJ):yN (gR p):=tN fun r=>bw p r
theorem Fh {p:aJ}:gR p=p↔yN p:=⟨fun h=>h ▸ iI p,zC⟩
theorem fw {p:aJ}:bJ p=true↔yN p:=by unfold bJ;rw[decide_eq_true_eq,Fh]
theorem tm {a b:aJ}(h1:a.vec=b.vec)(h2:a.ab=b.ab):a=b:=by cases a;cases b;simp only at h1 h2;subst h1 h2;rfl
def Loc.v {α:Type}(l:Loc α):Value:=.slice l.a l.xs.length l.c
def Loc.iZ (e:Nat)(l:Loc bq):As:=eR e l.a l.c l.xs
abbrev jV (ty t:Nat)(ls:List (Loc bq)):As:=a6 t (.cells (ls.map Loc.v).toArray ty (0,0))
theorem qE {ls:List (Loc bq)}{i e:Nat}{l:Loc bq}(h:ls[i]?=some l):(ls.map (Loc.iZ e))[i]?=some (Loc.iZ e l):=by rw[List.getElem?_map,h];rfl
theorem gL {W w:World}{L:List As}{ty t i k:Nat}{ls:List (Loc bq)}{l:Loc bq}(s:Sat W w (jV ty t ls::L))(h:ls[i]?=some l)(hk:k=i:=by simp):w.cell? ⟨t,k,none⟩=some (.slice l.a l.xs.length l.c):=by
 subst hk;exact s.ph (by simp[h,Loc.v])
theorem s9 {W w:World}{L:List As}{e i:Nat}{ls:List (Loc bq)}{l l':Loc bq}(h:ls[i]?=some l)(s:Sat W w (Loc.iZ e l'::br ((ls.map (Loc.iZ e)).eraseIdx i)::L)):Sat W w (br ((ls.set i l').map (Loc.iZ e))::L):=by
 rw[List.map_set];exact Sat.vt (by rw[List.length_map];exact (List.getElem?_eq_some_iff.1 h).1) s
theorem rB {W w:World}{L:List As}{e i:Nat}{ls:List (Loc bq)}{l:Loc bq}(s:Sat W w (br (ls.map (Loc.iZ e))::L))(h:ls[i]?=some l):j7 w l.a l.c l.xs:=(s.dO (qE h)).rd
section
variable {P:Program} {ops:Array Oper} {a:Act} {n:Nat} {E:Env} {w W:World} {rest:List Oper} {Q:Exit→Act→World→Prop} {L:List As} {t ty:TypeId} {ps:String} {af:Array Edge} {x y:Operand} {ds:List Deferred}
theorem eT {q:Nat}{K:Act→World→Prop}{tb i t':Nat}{p:Addr}{v:Value}{ls:List (Loc bq)}{l:Loc bq}(l':Loc bq)(I:Ag a n E ds)(hi':ops[q]?=some ⟨none,.store t x y,ty,ps,af,none⟩)(hx:fC E x=some (.pointer (some p)))(hp:p=⟨tb,i,none⟩)(hy:fC E y=some v)(hv:v=l'.v)(ht:flat P t=true)(h1:(P.info? t).map (·.size)=some 1)
 (s:Sat W w (jV t' tb ls::L)) (hi:ls[i]?=some l) (k:∀w',Sat W w' (jV t' tb (ls.set i l')::L)→K a w'):wpOp P ops Q q K a w:=by
 subst hp hv;refine eW I hi' hx hy ht h1 rfl s (u:=l.v) (by rw[l7];simp[hi]) fun w' h=>k w' ?_;rw[jV,List.map_set];simpa using h
end
def gq (ps:List aJ)(r:Nat):List bq:=ps.flatMap fun p=>cN p r
def gQ (ls:List (Loc bq))(f:Nat→List bq):Prop:=ls.length=16∧∀r l,ls[r]?=some l→l.xs=f r
theorem gQ.get {ls:List (Loc bq)}{f:Nat→List bq}(h:gQ ls f){r:Nat}(hr:r<16):∃A c,ls[r]?=some ⟨A,c,f r⟩:=by
 have hl:r<ls.length:=by rw[h.1];exact hr
 have:=h.2 r ls[r] (List.getElem?_eq_getElem hl);refine⟨ls[r].a,ls[r].c,?_⟩;rw[List.getElem?_eq_getElem hl,←this]
theorem gQ.set {ls:List (Loc bq)}{f g:Nat→List bq}(h:gQ ls f){r:Nat}{l:Loc bq}(hl:l.xs=g r)(hg:∀k,k<16→k≠r→g k=f k):gQ (ls.set r l) g:=by
 refine⟨by rw[List.length_set];exact h.1,fun k x hx=>?_⟩;have hk:k<16:=by have:=(List.getElem?_eq_some_iff.1 hx).1;rw[List.length_set,h.1]at this;exact this
 by_cases e:r=k
 ·
  subst e;rw[List.getElem?_set_self (by rw[h.1];exact hk)]at hx;cases hx;exact hl
 ·
  rw[List.getElem?_set_ne e]at hx;rw[h.2 k x hx,hg k hk (Ne.symm e)]
theorem gQ.congr {ls:List (Loc bq)}{f g:Nat→List bq}(h:gQ ls f)(hg:∀k,k<16→f k=g k):gQ ls g:=⟨h.1,fun r l hl=>by
 have hr:r<16:=by have:=(List.getElem?_eq_some_iff.1 hl).1;rw[h.1]at this;exact this
 rw[h.2 r l hl,hg r hr]⟩
def nC (v:List Int)(j r:Nat):List bq:=if r<j then (match v[r]? with | some x=>[(1,x)] | none=>[]) else []
theorem Cn {v:List Int}{j r:Nat}(hr:r<16)(hj:min v.length 16≤j):nC v j r=match v[r]? with | some x=>[(1,x)] | none=>[]:=by
 unfold nC
 split
 ·
  rfl
 ·
  rename_i h;rw[List.getElem?_eq_none (by omega)]
theorem Hu (p:aJ){r j k:Nat}(hr:r<16)(hj:min p.vec.length 16≤j)(hk:p.ab.length≤k):nC p.vec j r++bQ (p.ab.take k) r=cN p r:=by
 unfold cN;rw[Cn hr hj,List.take_of_length_le hk];cases p.vec[r]?<;>rfl
theorem AE {v:List Int}{j:Nat}{x:Int}(h:v[j]?=some x):(∀r,r≠j→nC v (j+1) r=nC v j r)∧nC v (j+1) j=nC v j j++[(1,x)]:=by
 unfold nC;refine⟨fun r hr=>?_,by simp[h]⟩
 by_cases h1:r<j
 ·
  rw[if_pos h1,if_pos (by omega)]
 ·
  rw[if_neg h1,if_neg (by omega)]
theorem Bq {c:List aN}{k:Nat}{s:aN}(h:c[k]?=some s)(r:Nat):bQ (c.take (k+1)) r=bQ (c.take k) r++if s.rep=(r:Int) then [(s.lo,s.hi)] else []:=by
 rw[List.take_add_one,h,nQ]
 congr 1
 show bQ [s] r=_;unfold bQ
 by_cases e:s.rep=(r:Int)
 ·
  simp[e]
 ·
  simp[e]
theorem Ax (ps:List aJ)(p:aJ)(r:Nat):gq (ps++[p]) r=gq ps r++cN p r:=by simp[gq]
theorem ek (p:aJ)(r:Nat):(cN p r).length≤p.ab.length+1:=by
 unfold cN bQ;rw[List.length_append];have:=List.length_filterMap_le (fun s:aN=>if s.rep=(r:Int) then some (s.lo,s.hi) else none) p.ab
 split<;>simp<;>omega
def cO (ps:List aJ):Nat:=(ps.map fun p=>p.ab.length+1).sum
theorem kg (ps:List aJ)(r:Nat):(gq ps r).length≤cO ps:=by
 induction ps with
 | nil=>simp[gq,cO]
 | cons p ps ih =>
   have:=ek p r;unfold gq cO at *;simp only[List.flatMap_cons,List.length_append,List.map_cons,List.sum_cons];omega
theorem wL {ps:List aJ}{i:Nat}{p:aJ}(h:ps[i]?=some p):cO (ps.take i)+(p.ab.length+1)≤cO ps:=by
 conv=>rhs;rw[←List.take_append_drop i ps]
 have e:ps.drop i=p::ps.drop (i+1):=by
  have hi:=List.getElem?_eq_some_iff.1 h;rw[List.drop_eq_getElem_cons hi.1,hi.2]
 rw[e];unfold cO;rw[List.map_append,List.sum_append,List.map_cons,List.sum_cons];omega
def wP:Loc bq:=⟨none,0,[]⟩
theorem r6 {W w:World}{L:List As}(e:Nat)(s:Sat W w L):∀n,Sat W w (br ((List.replicate n wP).map (Loc.iZ e))::L)
 | 0=>s.kM
 | n+1=>((r6 e s n).aX e 2).oQ
theorem sv:gQ (List.replicate 16 wP) (fun _=>[]):=⟨by simp,fun r l h=>by
 have:=List.mem_of_getElem? h;rw[List.eq_of_mem_replicate this];rfl⟩
def dq (T:List aJ)(d:aJ)(j k r:Nat):List bq:=gq T r++(nC d.vec j r++bQ (d.ab.take k) r)
theorem sd (T:List aJ)(d:aJ)(r:Nat):dq T d 0 0 r=gq T r:=by simp[dq,nC,bQ]
theorem mu {T:List aJ}{d:aJ}{j:Nat}{v:Int}(h:d.vec[j]?=some v):(∀r,r≠j→dq T d (j+1) 0 r=dq T d j 0 r)∧dq T d (j+1) 0 j=dq T d j 0 j++[(1,v)]:=by
 obtain⟨h1,h2⟩:=AE h;unfold dq;refine⟨fun r hr=>by rw[h1 r hr],by rw[h2];simp[bQ]⟩
theorem eZ {T:List aJ}{d:aJ}{j k:Nat}{s:aN}(h:d.ab[k]?=some s)(r:Nat):dq T d j (k+1) r=dq T d j k r++if s.rep=(r:Int) then [(s.lo,s.hi)] else []:=by
 unfold dq;rw[Bq h r];simp only[List.append_assoc]
theorem ow {T:List aJ}{d:aJ}{r k:Nat}(hr:r<16)(hk:d.ab.length≤k):dq T d (min d.vec.length 16) k r=gq (T++[d]) r:=by
 unfold dq;rw[Ax,Hu d hr (Nat.le_refl _) hk]
theorem CZ (v:List Int)(j r:Nat):(nC v j r).length≤1:=by
 unfold nC
 split
 ·
  split<;>simp
 ·
  simp
theorem zU (c:List aN)(r:Nat):(bQ c r).length≤c.length:=List.length_filterMap_le _ _
theorem nK (T:List aJ)(d:aJ)(j k r:Nat):(dq T d j k r).length≤cO T+(d.ab.length+1):=by
 unfold dq;have h1:=kg T r;have h2:=zU (d.ab.take k) r;have h3:=CZ d.vec j r;rw[List.length_take]at h2;rw[List.length_append,List.length_append];omega
theorem kU {ps:List PL}{i:Nat}{p:PL}(h:ps[i]?=some p):(ps.map PL.d)[i]?=some p.d:=by rw[List.getElem?_map,h];rfl
theorem Cx {W0 W w:World}{L0 M:List As}{ty t i k:Nat}{ls:List (Loc bq)}{l:Loc bq}(s0:Sat W0 W (jV ty t ls::L0))(s:Sat W w M)(h:ls[i]?=some l)(hk:k=i:=by simp):w.cell? ⟨t,k,none⟩=some (.slice l.a l.xs.length l.c):=by
 have h0:=gL s0 h hk;rw[s.below.cell (World.block_lt_of_cell? _ _ h0)];exact h0
theorem G9 {f:Nat→Int}{r:Nat}(hr:r<16)(x:Int)(hx:x=f r):(((List.range r).map f++List.replicate (16-r) 0).map (Value.int .i64)).set r (.int .i64 x)=((List.range (r+1)).map f++List.replicate (16-(r+1)) 0).map (Value.int .i64):=by
 subst hx;rw[show Value.int .i64 (f r)=Value.int .i64 (f r) from rfl,←List.map_set]
 congr 1
 rw[List.set_append_right _ _ (by simp),List.range_succ,List.map_append,List.append_assoc]
 congr 1
 obtain⟨k,hk⟩:∃k,16-r=k+1:=⟨16-r-1,by omega⟩;rw[hk,show 16-(r+1)=k from by omega,List.replicate_succ];simp
theorem mq (f:Nat→List bq)(r:Nat):(List.range (r+1)).flatMap (aP f)=(List.range r).flatMap (aP f)++aP f r:=by
 rw[List.range_succ,List.flatMap_append];simp
def jO (r:Nat)(x:bq):aN:=⟨(r:Int),x.1,x.2⟩
theorem qL (f:Nat→List bq)(r:Nat):aP f r=(aQ (f r)).2.map (jO r):=rfl
theorem wm {w:World}{A:Option Addr}{n c m:Nat}{cs:List Value}(h:Rd w 1 (.slice A n c) n cs)(hm:m≤n):Rd w 1 (.slice (i6 A c 1 0) m c) m (cs.take m):=by
 have:=Rd.Gr h m hm;rwa[Nat.mul_one]at this
theorem F4 {f:Nat→Int}{r:Nat}(hr:r<16):(((List.range r).map f++List.replicate (16-r) 0).map (Value.int .i64))[r]?=some (.int .i64 0):=by
 rw[List.getElem?_map,List.getElem?_append_right (by simp)];obtain⟨k,hk⟩:∃k,16-r=k+1:=⟨16-r-1,by omega⟩;rw[hk];simp[List.replicate_succ]
theorem B7 {f:Nat→Int}{r:Nat}(hr:r≤16):(((List.range r).map f++List.replicate (16-r) 0).map (Value.int .i64)).length=16:=by simp;omega
theorem yz {f:Nat→Int}{m:Nat}(hm:m≤16):(((List.range 16).map f++List.replicate (16-16) 0).map (Value.int .i64)).take m=((List.range m).map f).map (Value.int .i64):=by
 rw[Nat.sub_self,List.replicate_zero,List.append_nil,←List.map_take,←List.map_take,List.take_range,Nat.min_eq_left hm]
theorem r4 {fr:Nat→List bq}{B:Nat}(hb:∀r,r<16→(fr r).length≤B):∀r,r≤16→((List.range r).flatMap (aP fun r=>ar (fr r))).length≤r * B
 | 0,_=>by simp
 | r + 1, h => by
   have h1:=r4 hb r (by omega);have h2:=hb r (by omega);have h3:=cH (fr r);have h4:=lM (ar (fr r));rw[mq,qL,List.length_append,List.length_map,Nat.add_mul];omega
theorem sX (p:aJ):∀r,0≤((List.range r).map fun r=>cV (aO p r)).sum∧((List.range r).map fun r=>cV (aO p r)).sum≤(r:Int) * 1000000000
 | 0=>by simp
 | r + 1 => by
   have h:=sX p r;have h1:=(iP (bw p r)).1
   have h2:cV (aO p r)≤1000000000:=by
    rcases uU (bw p r) (Int.le_refl 0) (fun s hs=>by have:=((bw p r).each s hs).1;omega) with h | h
    ·
     rw[dI]at h;omega
    ·
     rw[h];decide
   rw[List.range_succ,List.map_append,List.sum_append];simp only[List.map_cons,List.map_nil,List.sum_cons,List.sum_nil];omega
theorem rH (p:aJ)(r:Nat):((List.range (r+1)).map fun r=>cV (aO p r)).sum=((List.range r).map fun r=>cV (aO p r)).sum+cV (ar (cN p r)):=by
 rw[List.range_succ,List.map_append,List.sum_append];simp[aO]
theorem Dp {a b:aJ}{r:Nat}(hr:r<16)(h:¬en (ar (cN a r)) (ar (cN b r))=[]):ck a b=false:=by
 unfold ck;rw[List.all_eq_false];exact⟨r,List.mem_range.2 hr,fun hd=>h (of_decide_eq_true hd)⟩
theorem Bj {a b:aJ}(h:∀r,r<16→en (ar (cN a r)) (ar (cN b r))=[]):ck a b=true:=by
 unfold ck;rw[List.all_eq_true];intro r hr;exact decide_eq_true (h r (List.mem_range.1 hr))
theorem yA {xs:List bq}(y:List bq)(h:xs.length=0):en (ar xs) y=[]:=by
 obtain rfl:=List.eq_nil_of_length_eq_zero h;show dP (ar []) _=[];simp[ar,dP]
def kP (l:List fZ)(r:Nat):List bq:=l.filterMap fun d=>if dG d.rep d.num=true∧d.rep=(r:Int) then some (d.num,d.num) else none
theorem nT {l:List fZ}{i:Nat}{d:fZ}(h:l[i]?=some d)(r:Nat):kP (l.take (i+1)) r=kP (l.take i) r++if dG d.rep d.num=true∧d.rep=(r:Int) then [(d.num,d.num)] else []:=by
 rw[List.take_add_one,h];unfold kP;rw[List.filterMap_append]
 congr 1
 by_cases e:dG d.rep d.num=true∧d.rep=(r:Int)
 ·
  rw[if_pos e];simp only[Option.toList,List.filterMap_cons,List.filterMap_nil,if_pos e]
 ·
  rw[if_neg e];simp only[Option.toList,List.filterMap_cons,List.filterMap_nil,if_neg e]
theorem tQ (l:List fZ)(r:Nat):(kP l r).length≤l.length:=List.length_filterMap_le _ _
def mW (fr:Nat→List bq):aJ:=fU fun r=>ar (fr r)
theorem CG (l:List fZ):mW (kP l)=l9 l:=by
 unfold mW l9 gR aO;refine pL fun r hr=>zt fun n h1 h2=>?_;unfold cN;simp only[List.getElem?_nil,List.nil_append];unfold kP bQ bG;constructor
 ·
  rintro ⟨x,hx,h3,h4⟩;obtain⟨d,hd,he⟩:=List.mem_filterMap.1 hx
  split at he
  ·
   rename_i hc;cases he;exact⟨_,List.mem_filterMap.2 ⟨⟨d.rep,d.num,d.num⟩,List.mem_map.2 ⟨d,hd,rfl⟩,if_pos hc.2⟩,h3,h4⟩
  ·
   cases he
 ·
  rintro ⟨x,hx,h3,h4⟩;obtain⟨s,hs,he⟩:=List.mem_filterMap.1 hx;obtain⟨d,hd,rfl⟩:=List.mem_map.1 hs
  split at he
  ·
   rename_i hc;cases he;simp only at h3 h4 hc;refine⟨_,List.mem_filterMap.2 ⟨d,hd,if_pos ⟨?_,hc⟩⟩,h3,h4⟩;unfold dG;rw[dI]at h2;simp only[Bool.and_eq_true,decide_eq_true_eq];omega
  ·
   cases he
theorem jF (p:aJ):(gR p).ab.length≤16 * (p.ab.length+1):=by
 have:=r4 (fr:=cN p) (B:=p.ab.length+1) (fun r _=>ek p r) 16 (Nat.le_refl _);exact this
theorem oz:∀(k:Nat) (x y:List bq),x.length+y.length≤k→(dP x y).length≤x.length+y.length
 | _,[],y,_=>by simp[dP]
 | _,_::_,[],_=>by simp[dP]
 | 0,_::_,_::_,h=>by simp at h
 | k + 1, a :: x, b :: y, h => by
   simp only[List.length_cons]at h;rw[qb,List.length_append];have h1:=oz k x (b::y) (by simp only[List.length_cons];omega);have h2:=oz k (a::x) y (by simp only[List.length_cons];omega);simp only[List.length_cons]at h1 h2 ⊢
   split<;>split<;>simp<;>omega
theorem mR (a b:aJ)(r:Nat):(en (aO a r) (aO b r)).length≤a.ab.length+b.ab.length+3:=by
 unfold en;have h1:=oz _ (aO a r) (ly 1 (aO b r)) (Nat.le_refl _);have h2:=pV (aO b r) 1;have h3:=cH (cN a r);have h4:=cH (cN b r);have h5:=ek a r;have h6:=ek b r;unfold aO at *;omega
def oB (a b:aJ)(r k:Nat):List bq:=if k<r then en (aO a k) (aO b k) else cN a k
theorem DW (a b:aJ)(r:Nat):oB a b r r=cN a r:=if_neg (Nat.lt_irrefl r)
theorem Dl (a b:aJ)(r:Nat):oB a b (r+1) r=en (aO a r) (aO b r):=if_pos (Nat.lt_succ_self r)
theorem CW {a b:aJ}{r k:Nat}(h:k≠r):oB a b (r+1) k=oB a b r k:=by
 unfold oB
 by_cases h1:k<r
 ·
  rw[if_pos h1,if_pos (by omega)]
 ·
  rw[if_neg h1,if_neg (by omega)]
theorem z1 (a b:aJ):mW (oB a b 16)=jQ a b:=by
 unfold mW jQ;refine pL fun r hr=>?_;unfold oB;rw[if_pos hr,tY (kE (bw a r) (bw b r))]
theorem E8 {a b:aJ}(ha:a.ab.length≤10000000000)(hb:b.ab.length≤10000000000):∀r,r<16→(oB a b 16 r).length≤100000000000:=fun r hr=>by
 unfold oB;rw[if_pos hr];have:=mR a b r;omega
theorem tV (W:World)(A:Option Addr)(c:Nat)(ps:List PL)(hR:Bi W A c ps)(hE:∀p∈ps,p.ok W)(hn:ps.length≤1000000000000)(ht:cO (ps.map PL.d)≤1000000000000):Calls Tryz.prog 191 #[.slice A (ps).length c] W fun e w'=>∃t ls,e=.returned (.pointer (some ⟨t,0,none⟩))∧gQ ls (gq (ps.map PL.d))∧Sat W w' [jV 355 t ls,br (ls.map (Loc.iZ 357))]:=by
 refine bP Tryz.func191 [0] ?_;have O:=Sat.start W;refine uC 7 ?_;intro a I;refine o1 0 I (aM I rfl Fa) ?_;clear I a;refine uB rfl O ?_;clear O;intro b10 w O;refine uO 7 ?_;refine u1 4 (ak rfl fJ) ?_;intro a I;refine wp_loop_ghost (fun (mm:Nat) a w=>∃(i:Nat) (ls:List (Loc bq)),Ag a 78 [(3,.pointer (some ⟨b10,0,none⟩)),(11,.slice A (ps).length c),(12,.int .i64 ((ps.length:Nat):Int)),(13,.int .i64 ((i:Nat):Int))]∧Sat W w ([jV 355 b10 ls,br (ls.map (Loc.iZ 357))])∧(i≤ps.length)∧(gQ ls (gq ((ps.map PL.d).take i)))∧mm=ps.length-i) ps.length ?_ ?_
 ·replace I:=I.kp [3,11,12,13] rfl;have hS1:Sat W w [jV 355 b10 (List.replicate 16 wP),br ((List.replicate 16 wP).map (Loc.iZ 357))]:=(r6 357 O 16).p 1;exact⟨0,_,I,hS1,(by omega),(by exact sv),by omega⟩
 intro m a w hI;clear O I;obtain⟨i,ls,I,O,hi,hT,rfl⟩:=hI;refine rC 2 I ?_;clear I a;refine aK 0 0 (aq rfl rfl) ?_ ?_
 ·intro h14;refine uO 10 ?_;obtain⟨A_p,rfl⟩:∃q,A=some q:=(hR.sat O).ao (by omega);obtain⟨p,hp⟩:∃zz_,ps[i]?=some zz_:=⟨_,List.getElem?_eq_getElem (by omega)⟩;have hpo:=hE p (List.mem_of_getElem? hp);have hsp:=wL (kU hp);obtain⟨va,vc,ca,cc,d⟩:=p;have hpv:j2 W va vc d.vec:=hpo.vec;have hpc:gF W ca cc d.ab:=hpo.ab;intro a I;dsimp only at hsp;refine o1 0 I (fV (I.ev rfl) (I.ev rfl) fJ bo (by omega) (by omega)) ?_;clear I a;refine u1 0 (ax (cs:=nU (⟨va,vc,ca,cc,d⟩:PL)) rfl fu bo (fun j u e=>bI (hR.sat O) (kJ hp j u e))) ?_;refine uN dK O ?_;clear O;intro b5 w O;refine uW (vs:=[_,_]) (cs':=[_,_]) rfl rfl bo O ?_;clear O;intro w O;refine uO 5 ?_;refine u1 0 (aa rfl cz) ?_;refine u1 0 (ld rfl) ?_;refine u1 0 (ak rfl aA) ?_;refine u1 4 (yg rfl rfl) ?_;intro a I
  refine wp_loop_ghost (fun (mm:Nat) a w=>∃(j:Nat) (ls:List (Loc bq)),Ag a 78 [(3,.pointer (some ⟨b10,0,none⟩)),(11,.slice (some A_p) (ps).length c),(12,.int .i64 ((ps.length:Nat):Int)),(13,.int .i64 ((i:Nat):Int)),(5,.pointer (some ⟨b5,0,none⟩)),(20,.int .i64 (min (d.vec.length:Int) 16)),(21,.int .i64 ((j:Nat):Int))]∧Sat W w ([a6 b5 (.cells #[.slice va d.vec.length vc,.slice ca d.ab.length cc] 63),jV 355 b10 ls,br (ls.map (Loc.iZ 357))])∧(j≤min d.vec.length 16)∧(gQ ls (dq ((ps.map PL.d).take i) d j 0))∧mm=min d.vec.length 16-j) (min d.vec.length 16) ?_ ?_
  ·replace I:=I.kp [3,11,12,13,5,20,21] rfl;exact⟨0,_,I,O,(by omega),(by exact hT.congr fun r hr=>(sd _ d r).symm),by omega⟩
  intro m a w hI;clear O I;obtain⟨j,ls,I,O,hj,hT,rfl⟩:=hI;refine rC 2 I ?_;clear I a;refine aK 0 0 (aq rfl rfl) ?_ ?_
  ·intro h22;obtain⟨lA,lc,hl⟩:=hT.get (show j<16 by omega);have hlen:=nK ((ps.map PL.d).take i) d j 0 j;intro a I;replace O:Sat W w (eR 357 lA lc (dq ((ps.map PL.d).take i) d j 0 j)::_):=(O.p 2).dO (qE hl);refine rO 14 I ?_;clear I a;intro a I;refine bj [14,17] O (by kernel_rfl) ?_;replace O:=O.drew;refine rX [0,1,2,3] I ?_;clear I a;refine bx 4 [] rfl (fun w=>(aZ rfl)) ?_;refine bx 5 [] rfl (fun w=>(iA rfl rfl lL iL)) ?_;refine cP 6 [] rfl (by exact⟨[],O⟩) (fun w hT=>have O:=hT.sat;(aj rfl kN (gL (O.p 3) hl))) ?_;refine bx 7 [] rfl (fun w=>(aa rfl cz)) ?_;refine cP 8 [9] rfl (by exact⟨[],O⟩) (fun w hT=>have O:=hT.sat;(ld rfl)) ?_;obtain⟨va_p,rfl⟩:∃q,va=some q:=(hpv.sat O).ao (by omega);obtain⟨v,hv⟩:∃zz_,d.vec[j]?=some zz_:=⟨_,List.getElem?_eq_getElem (by omega)⟩
   refine bx 10 [] rfl (fun w=>(ix rfl rfl aA fO)) ?_;refine cP 11 [] rfl (by exact⟨[],O⟩) (fun w hT=>have O:=hT.sat;(aj rfl dE (eO (hpv.sat O) (aV hv)))) ?_;intro a I;refine P1 12 [] I rfl (fun w=>(aM I rfl kC)) ?_;clear I a;refine bx 15 [] rfl (fun w=>(aZ rfl)) ?_;intro a I;refine aD 13 (by kernel_rfl) ?_;refine vB (vss:=[[_,_]]) I rfl rfl rfl bR iB rfl rfl rfl (by simp) rfl O ?_;clear I a O;intro A37 w O;intro a I;refine⟨.inr fun _=>(by exact⟨[_],O⟩),?_⟩;refine aD 14 (by kernel_rfl) ?_;refine eA I rfl rfl rfl rfl bR iB rfl (O.p 1) (O.rd.src bR (by simp[Value.oneCell'])) (by omega) (by omega) ?_;clear I a O;intro A38 c38 w hc38 O;intro a I;refine⟨.inl rfl,?_⟩;refine P1 16 [] I rfl (fun w=>(fI (I.ev rfl) (I.ev rfl) lL iL (by omega) (by omega))) ?_;clear I a;intro a I
   refine aD 17 (by kernel_rfl) ?_;refine eT (i:=j) ⟨A38,c38,dq ((ps.map PL.d).take i) d j 0 j++[(1,v)]⟩ I rfl rfl (by simp) rfl (by simp[Loc.v]) kN iL (O.p 4) hl ?_;clear O;intro w O;refine⟨.inl rfl,?_⟩;refine ah (by kernel_rfl) ?_ _;refine rE 3 I ?_;clear I a;refine u1 2 (ad rfl rfl) ?_;intro a I;replace I:=I.kp [3,11,12,13,5,20,21] rfl;have hS2:=s9 hl (l':=⟨A38,c38,dq ((ps.map PL.d).take i) d j 0 j++[(1,v)]⟩) (fW (((O.p 4).p 4).p 3) (by simp) (by simp[gS]));refine⟨min d.vec.length 16-(j+1),by omega,j+1,_,I,pw ((hS2.p 2).p 2),by omega,?_,rfl⟩;exact hT.set (mu hv).2.symm fun k hk hne=>(mu hv).1 k hne
  ·intro h22;refine uO 11 ?_;refine u1 0 (aa rfl bX) ?_;refine u1 0 (ld rfl) ?_;refine u1 4 (ak rfl dk) ?_;intro a I;refine wp_loop_ghost (fun (mm:Nat) a w=>∃(k:Nat) (ls:List (Loc bq)),Ag a 78 [(3,.pointer (some ⟨b10,0,none⟩)),(11,.slice (some A_p) (ps).length c),(12,.int .i64 ((ps.length:Nat):Int)),(13,.int .i64 ((i:Nat):Int)),(43,.slice ca (d.ab).length cc),(44,.int .i64 ((d.ab.length:Nat):Int)),(45,.int .i64 ((k:Nat):Int))]∧Sat W w ([jV 355 b10 ls,br (ls.map (Loc.iZ 357))])∧(k≤d.ab.length)∧(gQ ls (dq ((ps.map PL.d).take i) d (min d.vec.length 16) k))∧mm=d.ab.length-k) d.ab.length ?_ ?_
   ·replace I:=I.kp [3,11,12,13,43,44,45] rfl;exact⟨0,_,I,O.drop,(by omega),(by have hj:j=min d.vec.length 16:=(by omega);rw[←hj];exact hT),by omega⟩
   intro m a w hI;clear O I;obtain⟨k,ls,I,O,hk,hT,rfl⟩:=hI;refine rC 2 I ?_;clear I a;refine aK 0 0 (aq rfl rfl) ?_ ?_
   ·intro h46;refine uO 10 ?_;obtain⟨ca_p,rfl⟩:∃q,ca=some q:=(hpc.sat O).ao (by omega);obtain⟨s,hs⟩:∃zz_,d.ab[k]?=some zz_:=⟨_,List.getElem?_eq_getElem (by omega)⟩;refine u1 0 (ix rfl rfl dk cL) ?_;refine u1 0 (ax (cs:=gm s) rfl j6 cL (fun j u e=>bI (hpc.sat O) (dD hs j u e))) ?_;refine uN mn O ?_;clear O;intro b8 w O;refine uW (vs:=[_,_,_]) (cs':=[_,_,_]) rfl rfl cL O ?_;clear O;intro w O;refine uO 4 ?_;refine u1 0 (aa rfl bT) ?_;refine u1 0 (ld rfl) ?_;refine aK 0 0 (dH rfl rfl) ?_ ?_
    ·intro h51;refine uO 1 ?_;refine u1 0 (aa rfl bT) ?_;refine u1 0 (ld rfl) ?_;refine aK 0 0 (aq rfl rfl) ?_ ?_
     ·intro h55;obtain⟨lA,lc,hl⟩:=hT.get (show s.rep.toNat<16 by omega);have hlen:=nK ((ps.map PL.d).take i) d (min d.vec.length 16) k s.rep.toNat;intro a I;replace O:Sat W w (eR 357 lA lc (dq ((ps.map PL.d).take i) d (min d.vec.length 16) k s.rep.toNat)::_):=(O.p 2).dO (qE hl);refine rO 4 I ?_;clear I a;intro a I;refine ja [18] (lq W [br ((ls.map (Loc.iZ 357)).eraseIdx s.rep.toNat),a6 b8 (.cells #[.int .i64 s.rep,.int .i64 s.lo,.int .i64 s.hi] 219),jV 355 b10 ls]) (by kernel_rfl) ?_;replace O:=O.drew;refine rX [0] I ?_;clear I a
      refine bx 1 [] rfl (fun w=>(aa rfl bT)) ?_;refine cP 2 [3] rfl (by exact⟨[_],O⟩) (fun w hT=>have O:=hT.sat;(ld rfl)) ?_;refine bx 4 [] rfl (fun w=>(aa rfl bT)) ?_;refine cP 5 [] rfl (by exact⟨[_],O⟩) (fun w hT=>have O:=hT.sat;(ld rfl)) ?_;refine bx 6 [] rfl (fun w=>(aZ rfl)) ?_;refine bx 7 [] rfl (fun w=>(iA rfl rfl lL iL)) ?_;refine cP 8 [] rfl (by exact⟨[_],O⟩) (fun w hT=>have O:=hT.sat;(aj rfl kN (gL (O.p 2) hl))) ?_;refine bx 9 [] rfl (fun w=>(aa rfl dS)) ?_;refine cP 10 [] rfl (by exact⟨[_],O⟩) (fun w hT=>have O:=hT.sat;(ld rfl)) ?_;refine bx 11 [] rfl (fun w=>(aa rfl dW)) ?_;refine cP 12 [] rfl (by exact⟨[_],O⟩) (fun w hT=>have O:=hT.sat;(ld rfl)) ?_;intro a I;refine P1 13 [] I rfl (fun w=>(aM I rfl kC)) ?_;clear I a;refine bx 16 [] rfl (fun w=>(aZ rfl)) ?_
      intro a I;refine aD 14 (by kernel_rfl) ?_;refine vB (vss:=[[_,_]]) I rfl rfl rfl bR iB rfl rfl rfl (by simp) rfl O ?_;clear I a O;intro A71 w O;intro a I;refine⟨.inr fun _=>(by exact⟨[_,_],O⟩),?_⟩;refine aD 15 (by kernel_rfl) ?_;refine eA I rfl rfl rfl rfl bR iB rfl (O.p 1) (O.rd.src bR (by simp[Value.oneCell'])) (by omega) (by omega) ?_;clear I a O;intro A72 c72 w hc72 O;intro a I;refine⟨.inr fun _=>(by exact⟨[_,_],O⟩),?_⟩;refine P1 17 [] I rfl (fun w=>(fI (I.ev rfl) (I.ev rfl) lL iL (by omega) (by omega))) ?_;clear I a;intro a I;refine aD 18 (by kernel_rfl) ?_;refine eT (i:=s.rep.toNat) ⟨A72,c72,dq ((ps.map PL.d).take i) d (min d.vec.length 16) k s.rep.toNat++[(s.lo,s.hi)]⟩ I rfl rfl (by simp) rfl (by simp[Loc.v]) kN iL (O.p 4) hl ?_;clear O;intro w O;refine⟨.inl rfl,?_⟩
      refine ah (by kernel_rfl) ?_ _;refine rE 3 I ?_;clear I a;refine u1 2 (ad rfl rfl) ?_;intro a I;replace I:=I.kp [3,11,12,13,43,44,45] rfl;have hS2:=s9 hl (l':=⟨A72,c72,dq ((ps.map PL.d).take i) d (min d.vec.length 16) k s.rep.toNat++[(s.lo,s.hi)]⟩) (fW ((O.p 3).p 2) (by simp) (by simp[gS]));refine⟨d.ab.length-(k+1),by omega,k+1,_,I,oW (hS2.p 1),by omega,?_,rfl⟩;refine hT.set ?_ fun q hq hne=>?_
      ·rw[eZ hs,if_pos (by omega)]
      ·rw[eZ hs,if_neg (by omega),List.append_nil]
     ·intro h55;refine uO 8 ?_;refine u1 2 (ad rfl rfl) ?_;intro a I;replace I:=I.kp [3,11,12,13,43,44,45] rfl;refine⟨d.ab.length-(k+1),by omega,k+1,ls,I,O.drop,by omega,?_,rfl⟩;exact hT.congr fun q hq=>by rw[eZ hs,if_neg (by omega),List.append_nil]
    ·intro h51;refine uO 12 ?_;refine u1 2 (ad rfl rfl) ?_;intro a I;replace I:=I.kp [3,11,12,13,43,44,45] rfl;refine⟨d.ab.length-(k+1),by omega,k+1,ls,I,O.drop,by omega,?_,rfl⟩;exact hT.congr fun q hq=>by rw[eZ hs,if_neg (by omega),List.append_nil]
   ·intro h46;refine uO 11 ?_;refine u1 2 (ad rfl rfl) ?_;intro a I;replace I:=I.kp [3,11,12,13] rfl;refine⟨ps.length-(i+1),by omega,i+1,ls,I,O,by omega,?_,rfl⟩;rw[ay (kU hp)];exact hT.congr fun r hr=>ow hr (by omega)
 ·intro h14;refine uO 16 ?_;refine aS ?_;have hi2:i=ps.length:=by omega
  subst hi2;rw[List.take_of_length_le (by simp)]at hT;exact⟨_,_,rfl,hT,O⟩
theorem xo (W:World)(A:Option Addr)(n c:Nat)(xs:List Int)(hR:Rd W 1 (.slice A n c) n (xs.map (Value.int .i64)))(hn:n=xs.length)(hl:xs.length≤1000000000000):Calls Tryz.prog 244 #[.slice A n c] W fun e w'=>∃A' c',e=.returned (.slice A' xs.length c')∧Sat W w' [cM 3 A' c' xs]:=by
 refine bP Tryz.func244 [0] ?_;have O:=Sat.start W;refine uC 9 ?_;refine ng 0 0 (AJ rfl rfl aA) ?_ ?_
 ·intro h4;refine uO 10 ?_;refine aS ?_;obtain rfl:A=none:=by simpa using h4
  obtain⟨h0,_⟩:=hR.nil;obtain rfl:=List.eq_nil_of_length_eq_zero (by omega:xs.length=0);exact⟨none,0,rfl,O.aX _ _⟩
 ·intro h4;refine uO 7 ?_;intro a I;refine zq I rfl aA jN O ?_;clear I a O;intro A5 w O;refine uO 1 ?_;intro a I;refine dj I rfl rfl rfl aA jN rfl O ((hR.sat O).src aA (zf xs)) (by omega) (by omega) ?_;clear I a O;intro A7 c7 w hc7 O;refine uO 4 ?_;refine aS ?_;simp only[Nat.zero_add,List.nil_append]at O ⊢;exact⟨_,_,pM hn,fW O hn rfl⟩
theorem lO (W:World)(W0:World)(L0:List As)(t:Nat)(ls:List (Loc bq))(fr:Nat→List bq)(s0:Sat W0 W (jV 355 t ls::br (ls.map (Loc.iZ 357))::L0))(hT:gQ ls fr)(hb:∀r,r<16→(fr r).length≤100000000000):Calls Tryz.prog 192 #[.pointer (some ⟨t,0,none⟩)] W fun e w'=>∃q:PL,e=.returned (.agg #[.slice q.va q.d.vec.length q.vc,.slice q.ca q.d.ab.length q.cc])∧q.d=mW fr∧Sat W w' [cM 3 q.va q.vc q.d.vec,bH 219 q.ca q.cc q.d.ab]:=by
 refine bP Tryz.func192 [0] ?_;have O:=Sat.start W;refine uC 2 ?_;refine uN dK O ?_;clear O;intro b2 w O;refine uO 4 ?_;refine uN dK O ?_;clear O;intro b3 w O;refine uO 4 ?_;intro a I;refine Ki I rfl rfl rfl aA jN rfl (by decide) (by decide) O ?_;clear I a O;intro b11 w O;refine uO 15 ?_;intro a I
 refine wp_loop_ghost (fun (mm:Nat) a w=>∃(r:Nat) (Ac:Option Addr) (cc:Nat),Ag a 59 [(0,.pointer (some ⟨t,0,none⟩)),(2,.pointer (some ⟨b2,0,none⟩)),(3,.pointer (some ⟨b3,0,none⟩)),(4,.slice (some ⟨b11,0,none⟩) 16 16),(5,.int .i64 (((cE (bn (fun r=>ar (fr r))) r):Nat):Int)),(12,.int .i64 ((r:Nat):Int))]∧Sat W w ([a6 b3 (.cells #[.slice none 0 0,.slice Ac (((List.range r).flatMap (aP (fun r=>ar (fr r))))).length cc] 63),bH 219 Ac cc ((List.range r).flatMap (aP (fun r=>ar (fr r)))),a6 b11 (.cells (((List.range (r)).map (bn (fun r=>ar (fr r)))++List.replicate (16-(r)) 0).map (Value.int .i64)).toArray 3 (0,0)),a6 b2 (.cells #[.slice none 0 0,.slice none 0 0] 63)])∧(r≤16)∧mm=16-r) 16 ?_ ?_
 ·replace I:=I.kp [0,2,3,4,5,12] rfl;exact⟨0,none,0,I,(((((O.aX 219 3).p 3).p 2).p 2).p 3),(by omega),by omega⟩
 intro m a w hI;clear O I;obtain⟨r,Ac,cc,I,O,hr,rfl⟩:=hI;refine rC 2 I ?_;clear I a;refine aK 0 0 (aq rfl rfl) ?_ ?_
 ·intro h13;obtain⟨lA,lc,hl⟩:=hT.get (show r<16 by omega);have hrd:j7 W lA lc (fr r):=rB s0.qv hl;have hbr:=hb r (by omega);have hlead:=nO (eo (fr r));have hrl:(aQ (ar (fr r))).2.length≤100000000000:=Nat.le_trans (lM _) (Nat.le_trans (cH _) hbr);have hcl:=r4 hb r (by omega);intro a I;rw[dI]at hlead;refine rO 18 I ?_;clear I a;refine u1 0 (aZ rfl) ?_;refine u1 0 (iA rfl rfl lL iL) ?_;refine u1 0 (aj rfl kN (Cx s0 O hl)) ?_;refine uF rfl (Bc _ lA lc (fr r) (hrd.sat O) (by omega)) ?_;rintro e w ⟨A21,c21,rfl,hT2⟩;replace O:=O.au hT2;clear hT2;refine uO 1 ?_;refine u1 0 (an rfl rfl) ?_;refine u1 9 (an rfl rfl) ?_;refine u1 0 (ix rfl rfl aA fO) ?_;intro a I;refine Jj (j:=r) I rfl (by rw[add_lit];simp) rfl dE fO rfl (O.p 3) (F4 (by omega)) ?_
  clear O;intro w O;rw[G9 (f:=(bn (fun r=>ar (fr r)))) (show r<16 by omega) (aQ (ar (fr r))).1 rfl]at O;refine rO 6 I ?_;clear I a;refine aK 0 0 (dx rfl rfl) ?_ ?_
  ·intro h29;refine uO 5 ?_;refine u1 6 (ad rfl rfl) ?_;refine u1 4 (ak rfl bR) ?_;intro a I
   refine wp_loop_ghost (fun (mm:Nat) a w=>∃(q sz:Nat) (Ac:Option Addr) (cc:Nat),Ag a 59 [(0,.pointer (some ⟨t,0,none⟩)),(2,.pointer (some ⟨b2,0,none⟩)),(3,.pointer (some ⟨b3,0,none⟩)),(4,.slice (some ⟨b11,0,none⟩) 16 16),(5,.int .i64 ((sz:Nat):Int)),(6,.int .i64 ((r:Nat):Int)),(12,.int .i64 ((r:Nat):Int)),(32,.slice A21 ((aQ (ar (fr r))).2).length c21),(33,.int .i64 (((aQ (ar (fr r))).2.length:Nat):Int)),(34,.int .i64 ((q:Nat):Int))]∧Sat W w ([a6 b3 (.cells #[.slice none 0 0,.slice Ac ((((List.range r).flatMap (aP (fun r=>ar (fr r))))++((aQ (ar (fr r))).2.take q).map (jO r))).length cc] 63),bH 219 Ac cc (((List.range r).flatMap (aP (fun r=>ar (fr r))))++((aQ (ar (fr r))).2.take q).map (jO r)),eR 357 A21 c21 (aQ (ar (fr r))).2,a6 b11 (.cells (((List.range (r+1)).map (bn (fun r=>ar (fr r)))++List.replicate (16-(r+1)) 0).map (Value.int .i64)).toArray 3 (0,0)),a6 b2 (.cells #[.slice none 0 0,.slice none 0 0] 63)])∧(q≤(aQ (ar (fr r))).2.length)∧(sz=cE (bn (fun r=>ar (fr r))) (r+1))∧mm=(aQ (ar (fr r))).2.length-q) (aQ (ar (fr r))).2.length ?_ ?_
   ·replace I:=I.kp [0,2,3,4,5,6,12,32,33,34] rfl
    have hS1:Sat W w [a6 b3 (.cells #[.slice none 0 0,.slice Ac ((((List.range r).flatMap (aP (fun r=>ar (fr r))))++((aQ (ar (fr r))).2.take 0).map (jO r))).length cc] 63),bH 219 Ac cc (((List.range r).flatMap (aP (fun r=>ar (fr r))))++((aQ (ar (fr r))).2.take 0).map (jO r)),eR 357 A21 c21 (aQ (ar (fr r))).2,a6 b11 (.cells (((List.range (r+1)).map (bn (fun r=>ar (fr r)))++List.replicate (16-(r+1)) 0).map (Value.int .i64)).toArray 3 (0,0)),a6 b2 (.cells #[.slice none 0 0,.slice none 0 0] 63)]:=by
     simp only[List.take_zero,List.map_nil,List.append_nil];exact (((((O.p 4).p 1).p 2).p 4).p 4)
    exact⟨0,r+1,Ac,cc,I,hS1,(by omega),(by rw[cE,if_pos (show 0<(bn (fun r=>ar (fr r))) r from h29)]),by omega⟩
   intro m a w hI;clear O I;obtain⟨q,sz,Ac,cc,I,O,hq,hsz,rfl⟩:=hI;refine rC 2 I ?_;clear I a;refine aK 0 0 (aq rfl rfl) ?_ ?_
   ·intro h35;refine uO 10 ?_;obtain⟨A21_p,rfl⟩:∃q,A21=some q:=(O.p 2).rd.ao (by omega);obtain⟨x,hx⟩:∃zz_,(aQ (ar (fr r))).2[q]?=some zz_:=⟨_,List.getElem?_eq_getElem (by omega)⟩;intro a I
    have hcl2:(((List.range r).flatMap (aP (fun r=>ar (fr r))))++((aQ (ar (fr r))).2.take q).map (jO r)).length≤r * 100000000000+q:=by
     rw[List.length_append,List.length_map,List.length_take];omega
    refine o1 0 I (fV (I.ev rfl) (I.ev rfl) bR dw (by omega) (by omega)) ?_;clear I a;refine u1 0 (ax (cs:=gS x) rfl sM dw (fun j u e=>bI (O.p 2).rd (eD hx j u e))) ?_;refine uN pn O ?_;clear O;intro b10 w O;refine uW (vs:=[_,_]) (cs':=[_,_]) rfl rfl dw O ?_;clear O;intro w O;refine uO 3 ?_;refine u1 0 (aa rfl bX) ?_;refine u1 1 (ld rfl) ?_;refine u1 0 (aa rfl gr) ?_;refine u1 0 (ld rfl) ?_;refine u1 0 (aa rfl dV) ?_;refine u1 0 (ld rfl) ?_;intro a I;refine o1 0 I (aM I rfl jw) ?_;clear I a;intro a I;refine jf (vss:=[[_,_,_]]) I rfl rfl dk o5 rfl rfl rfl (by simp) rfl O ?_;clear I a O;intro A46 w O;intro a I;refine dj I rfl rfl rfl dk o5 rfl (O.p 3) (O.rd.src dk (by simp[Value.oneCell'])) (by omega) (by omega) ?_
    clear I a O;intro A47 c47 w hc47 O;refine u1 0 (aa rfl bX) ?_;intro a I;refine mf (cs':=[_,_]) I rfl rfl xj EU rfl (O.p 3) rfl rfl ?_;clear O;intro w O;refine rO 4 I ?_;clear I a;refine u1 2 (ad rfl rfl) ?_;intro a I;replace I:=I.kp [0,2,3,4,5,6,12,32,33,34] rfl;have ec:(((List.range r).flatMap (aP (fun r=>ar (fr r))))++((aQ (ar (fr r))).2.take q).map (jO r))++[jO r x]=(((List.range r).flatMap (aP (fun r=>ar (fr r))))++((aQ (ar (fr r))).2.take (q+1)).map (jO r)):=by rw[ay hx,List.map_append,List.append_assoc];rfl
    have hS2:Sat W w (row 219 3 (.slice A47 ((((List.range r).flatMap (aP (fun r=>ar (fr r))))++((aQ (ar (fr r))).2.take q).map (jO r)).length+1) c47) ((((List.range r).flatMap (aP (fun r=>ar (fr r))))++((aQ (ar (fr r))).2.take q).map (jO r)).length+1) _::_):=O.p 1;refine⟨(aQ (ar (fr r))).2.length-(q+1),by omega,q+1,sz,A47,c47,I,?_,by omega,hsz,rfl⟩;have el:(((List.range r).flatMap (aP (fun r=>ar (fr r))))++((aQ (ar (fr r))).2.take q).map (jO r)).length+1=(((List.range r).flatMap (aP (fun r=>ar (fr r))))++((aQ (ar (fr r))).2.take (q+1)).map (jO r)).length:=by rw[←ec];simp;omega
    rw[←ec];rw[←ec]at el;have hS3:=fW hS2 (m:=((((List.range r).flatMap (aP (fun r=>ar (fr r))))++((aQ (ar (fr r))).2.take q).map (jO r))++[jO r x]).length) (cs':=((((List.range r).flatMap (aP (fun r=>ar (fr r))))++((aQ (ar (fr r))).2.take q).map (jO r))++[jO r x]).flatMap gm) el (by simp[gm,jO]);rw[el]at hS3;exact (((((hS3.p 6).p 6).p 6).p 3).p 4).cW [_,_,_,_,_]
   ·intro h35;refine uO 11 ?_;refine u1 2 (ad rfl rfl) ?_;intro a I;replace I:=I.kp [0,2,3,4,5,12] rfl;have hq:q=(aQ (ar (fr r))).2.length:=by omega
    have ec:((List.range r).flatMap (aP (fun r=>ar (fr r))))++((aQ (ar (fr r))).2.take q).map (jO r)=(List.range (r+1)).flatMap (aP (fun r=>ar (fr r))):=by rw[mq,qL,List.take_of_length_le (by omega)]
    rw[ec]at O;rw[hsz]at I;exact⟨16-(r+1),by omega,r+1,Ac,cc,I,((((O.p 4).p 4).p 3).p 3).cW [_,_,_,_],by omega,rfl⟩
  ·intro h29;refine uO 8 ?_;refine u1 4 (ak rfl bR) ?_;intro a I
   refine wp_loop_ghost (fun (mm:Nat) a w=>∃(q sz:Nat) (Ac:Option Addr) (cc:Nat),Ag a 59 [(0,.pointer (some ⟨t,0,none⟩)),(2,.pointer (some ⟨b2,0,none⟩)),(3,.pointer (some ⟨b3,0,none⟩)),(4,.slice (some ⟨b11,0,none⟩) 16 16),(5,.int .i64 ((sz:Nat):Int)),(6,.int .i64 ((r:Nat):Int)),(12,.int .i64 ((r:Nat):Int)),(32,.slice A21 ((aQ (ar (fr r))).2).length c21),(33,.int .i64 (((aQ (ar (fr r))).2.length:Nat):Int)),(34,.int .i64 ((q:Nat):Int))]∧Sat W w ([a6 b3 (.cells #[.slice none 0 0,.slice Ac ((((List.range r).flatMap (aP (fun r=>ar (fr r))))++((aQ (ar (fr r))).2.take q).map (jO r))).length cc] 63),bH 219 Ac cc (((List.range r).flatMap (aP (fun r=>ar (fr r))))++((aQ (ar (fr r))).2.take q).map (jO r)),eR 357 A21 c21 (aQ (ar (fr r))).2,a6 b11 (.cells (((List.range (r+1)).map (bn (fun r=>ar (fr r)))++List.replicate (16-(r+1)) 0).map (Value.int .i64)).toArray 3 (0,0)),a6 b2 (.cells #[.slice none 0 0,.slice none 0 0] 63)])∧(q≤(aQ (ar (fr r))).2.length)∧(sz=cE (bn (fun r=>ar (fr r))) (r+1))∧mm=(aQ (ar (fr r))).2.length-q) (aQ (ar (fr r))).2.length ?_ ?_
   ·replace I:=I.kp [0,2,3,4,5,6,12,32,33,34] rfl
    have hS1:Sat W w [a6 b3 (.cells #[.slice none 0 0,.slice Ac ((((List.range r).flatMap (aP (fun r=>ar (fr r))))++((aQ (ar (fr r))).2.take 0).map (jO r))).length cc] 63),bH 219 Ac cc (((List.range r).flatMap (aP (fun r=>ar (fr r))))++((aQ (ar (fr r))).2.take 0).map (jO r)),eR 357 A21 c21 (aQ (ar (fr r))).2,a6 b11 (.cells (((List.range (r+1)).map (bn (fun r=>ar (fr r)))++List.replicate (16-(r+1)) 0).map (Value.int .i64)).toArray 3 (0,0)),a6 b2 (.cells #[.slice none 0 0,.slice none 0 0] 63)]:=by
     simp only[List.take_zero,List.map_nil,List.append_nil];exact (((((O.p 4).p 1).p 2).p 4).p 4)
    exact⟨0,(cE (bn (fun r=>ar (fr r))) r),Ac,cc,I,hS1,(by omega),(by rw[cE,if_neg (show ¬0<(bn (fun r=>ar (fr r))) r from h29)]),by omega⟩
   intro m a w hI;clear O I;obtain⟨q,sz,Ac,cc,I,O,hq,hsz,rfl⟩:=hI;refine rC 2 I ?_;clear I a;refine aK 0 0 (aq rfl rfl) ?_ ?_
   ·intro h35;refine uO 10 ?_;obtain⟨A21_p,rfl⟩:∃q,A21=some q:=(O.p 2).rd.ao (by omega);obtain⟨x,hx⟩:∃zz_,(aQ (ar (fr r))).2[q]?=some zz_:=⟨_,List.getElem?_eq_getElem (by omega)⟩;intro a I
    have hcl2:(((List.range r).flatMap (aP (fun r=>ar (fr r))))++((aQ (ar (fr r))).2.take q).map (jO r)).length≤r * 100000000000+q:=by
     rw[List.length_append,List.length_map,List.length_take];omega
    refine o1 0 I (fV (I.ev rfl) (I.ev rfl) bR dw (by omega) (by omega)) ?_;clear I a;refine u1 0 (ax (cs:=gS x) rfl sM dw (fun j u e=>bI (O.p 2).rd (eD hx j u e))) ?_;refine uN pn O ?_;clear O;intro b10 w O;refine uW (vs:=[_,_]) (cs':=[_,_]) rfl rfl dw O ?_;clear O;intro w O;refine uO 3 ?_;refine u1 0 (aa rfl bX) ?_;refine u1 1 (ld rfl) ?_;refine u1 0 (aa rfl gr) ?_;refine u1 0 (ld rfl) ?_;refine u1 0 (aa rfl dV) ?_;refine u1 0 (ld rfl) ?_;intro a I;refine o1 0 I (aM I rfl jw) ?_;clear I a;intro a I;refine jf (vss:=[[_,_,_]]) I rfl rfl dk o5 rfl rfl rfl (by simp) rfl O ?_;clear I a O;intro A46 w O;intro a I;refine dj I rfl rfl rfl dk o5 rfl (O.p 3) (O.rd.src dk (by simp[Value.oneCell'])) (by omega) (by omega) ?_
    clear I a O;intro A47 c47 w hc47 O;refine u1 0 (aa rfl bX) ?_;intro a I;refine mf (cs':=[_,_]) I rfl rfl xj EU rfl (O.p 3) rfl rfl ?_;clear O;intro w O;refine rO 4 I ?_;clear I a;refine u1 2 (ad rfl rfl) ?_;intro a I;replace I:=I.kp [0,2,3,4,5,6,12,32,33,34] rfl;have ec:(((List.range r).flatMap (aP (fun r=>ar (fr r))))++((aQ (ar (fr r))).2.take q).map (jO r))++[jO r x]=(((List.range r).flatMap (aP (fun r=>ar (fr r))))++((aQ (ar (fr r))).2.take (q+1)).map (jO r)):=by rw[ay hx,List.map_append,List.append_assoc];rfl
    have hS2:Sat W w (row 219 3 (.slice A47 ((((List.range r).flatMap (aP (fun r=>ar (fr r))))++((aQ (ar (fr r))).2.take q).map (jO r)).length+1) c47) ((((List.range r).flatMap (aP (fun r=>ar (fr r))))++((aQ (ar (fr r))).2.take q).map (jO r)).length+1) _::_):=O.p 1;refine⟨(aQ (ar (fr r))).2.length-(q+1),by omega,q+1,sz,A47,c47,I,?_,by omega,hsz,rfl⟩;have el:(((List.range r).flatMap (aP (fun r=>ar (fr r))))++((aQ (ar (fr r))).2.take q).map (jO r)).length+1=(((List.range r).flatMap (aP (fun r=>ar (fr r))))++((aQ (ar (fr r))).2.take (q+1)).map (jO r)).length:=by rw[←ec];simp;omega
    rw[←ec];rw[←ec]at el;have hS3:=fW hS2 (m:=((((List.range r).flatMap (aP (fun r=>ar (fr r))))++((aQ (ar (fr r))).2.take q).map (jO r))++[jO r x]).length) (cs':=((((List.range r).flatMap (aP (fun r=>ar (fr r))))++((aQ (ar (fr r))).2.take q).map (jO r))++[jO r x]).flatMap gm) el (by simp[gm,jO]);rw[el]at hS3;exact (((((hS3.p 6).p 6).p 6).p 3).p 4).cW [_,_,_,_,_]
   ·intro h35;refine uO 11 ?_;refine u1 2 (ad rfl rfl) ?_;intro a I;replace I:=I.kp [0,2,3,4,5,12] rfl;have hq:q=(aQ (ar (fr r))).2.length:=by omega
    have ec:((List.range r).flatMap (aP (fun r=>ar (fr r))))++((aQ (ar (fr r))).2.take q).map (jO r)=(List.range (r+1)).flatMap (aP (fun r=>ar (fr r))):=by rw[mq,qL,List.take_of_length_le (by omega)]
    rw[ec]at O;rw[hsz]at I;exact⟨16-(r+1),by omega,r+1,Ac,cc,I,((((O.p 4).p 4).p 3).p 3).cW [_,_,_,_],by omega,rfl⟩
 ·intro h13;obtain rfl:r=16:=by omega
  have hsz16:=mG (bn (fun r=>ar (fr r))) 16;refine uO 13 ?_;refine aK 0 0 (dx rfl rfl) ?_ ?_
  ·intro h52;refine uO 2 ?_;intro a I;replace I:=I.kp [2,3,4,5,52] rfl;refine rC 4 I ?_;clear I a;refine u1 0 (oF rfl rfl aA fO (by omega) (by omega)) ?_;refine uF rfl (xo _ _ _ _ ((List.range (cE (bn (fun r=>ar (fr r))) 16)).map (bn (fun r=>ar (fr r)))) (yz hsz16 ▸ wm ((O.p 2).GG (m:=16) (B7 (Nat.le_refl _)) (by decide)).rd hsz16) (by simp) (by simp;omega)) ?_;rintro e w ⟨A3,c3,rfl,hT2⟩;replace O:=O.au hT2;clear hT2;refine u1 0 (aa rfl cz) ?_;intro a I;refine mf (cs':=[_,_]) I rfl rfl ik fQ rfl (O.p 1) rfl rfl ?_;clear O;intro w O;refine rO 4 I ?_;clear I a;refine u1 0 (lS (cs:=[_,_]) rfl) ?_;refine uW (vs:=[_,_]) (cs':=[_,_]) rfl rfl bo (O.p 4) ?_;clear O;intro w O;refine uO 3 ?_;intro a I
   refine gN I rfl (de (cs:=[_,_]) I rfl fu bo (by exact O.aF (xs:=[_,_]) rfl)) ?_;exact⟨⟨A3,c3,Ac,cc,mW fr⟩,rfl,rfl,oW ((O.p 3).p 3)⟩
  ·intro h52;refine uO 2 ?_;intro a I;replace I:=I.kp [2,3,4,5,52] rfl;refine rC 5 I ?_;clear I a;refine u1 0 (lS (cs:=[_,_]) rfl) ?_;refine uW (vs:=[_,_]) (cs':=[_,_]) rfl rfl bo (O.p 3) ?_;clear O;intro w O;refine uO 3 ?_;intro a I;refine gN I rfl (de (cs:=[_,_]) I rfl fu bo (by exact O.aF (xs:=[_,_]) rfl)) ?_;have e0:cE (bn (fun r=>ar (fr r))) 16=0:=by omega
   have ef:mW fr=⟨[],(List.range 16).flatMap (aP (fun r=>ar (fr r)))⟩:=by unfold mW fU;rw[e0];rfl
   refine⟨⟨none,0,Ac,cc,mW fr⟩,by rw[ef];rfl,rfl,?_⟩;rw[ef];exact oW (Sat.aX (O.p 2) 3 1)
def sP (s:aN)(r n:Int):Bool:=decide (s.rep=r) && decide (s.lo≤n) && decide (n≤s.hi)
theorem iy (c:List aN)(r n:Int):ky c r n=c.any fun s=>sP s r n:=rfl
theorem sK (W:World)(r n:Int)  : Calls Tryz.prog 193 #[.agg #[.int .i64 r,.int .i64 n]] W fun e w'=>e=.returned (.bool (dG r n))∧Sat W w' []:=by
 refine bP Tryz.func193 [0] ?_;have O:=Sat.start W;refine uC 2 ?_;refine uB rfl O ?_;clear O;intro b1 w O;refine uO 5 ?_;refine u1 0 (aa rfl bu) ?_;refine u1 0 (ld rfl) ?_;refine aK 0 0 (dH rfl rfl) ?_ ?_
 ·intro h5;refine uO 1 ?_;refine u1 0 (aa rfl bu) ?_;refine u1 0 (ld rfl) ?_;refine aK 0 0 (aq rfl rfl) ?_ ?_
  ·intro h9;refine uO 2 ?_;refine u1 0 (aa rfl bN) ?_;refine u1 0 (ld rfl) ?_;refine aK 0 0 (dH rfl rfl) ?_ ?_
   ·intro h14;refine uO 2 ?_;refine u1 0 (aa rfl bN) ?_;refine u1 0 (ld rfl) ?_;refine u1 5 (dU rfl rfl) ?_;refine aS ?_;refine⟨?_,O.nil⟩;unfold dG
    congr 2
    rw[Bool.eq_iff_iff];simp only[Bool.and_eq_true,decide_eq_true_eq,Bool.false_eq_true,false_iff];omega
   ·intro h14;refine uO 10 ?_;refine aS ?_;refine⟨?_,O.nil⟩;unfold dG
    congr 2
    rw[Bool.eq_iff_iff];simp only[Bool.and_eq_true,decide_eq_true_eq,Bool.false_eq_true,false_iff];omega
  ·intro h9;refine uO 15 ?_;refine aS ?_;refine⟨?_,O.nil⟩;unfold dG
   congr 2
   rw[Bool.eq_iff_iff];simp only[Bool.and_eq_true,decide_eq_true_eq,Bool.false_eq_true,false_iff];omega
 ·intro h5;refine uO 19 ?_;refine aS ?_;refine⟨?_,O.nil⟩;unfold dG
  congr 2
  rw[Bool.eq_iff_iff];simp only[Bool.and_eq_true,decide_eq_true_eq,Bool.false_eq_true,false_iff];omega
theorem C4 (W:World)(A:Option Addr)(c:Nat)(xs:List Int)(B:Option Addr)(d:Nat)(ys:List Int)(hX:j2 W A c xs)(hY:j2 W B d ys)(hlx:xs.length≤1000000000000000)(hly:ys.length≤1000000000000000):Calls Tryz.prog 158 #[.slice A (xs).length c,.slice B (ys).length d] W fun e w'=>e=.returned (.bool (decide (xs=ys)))∧Sat W w' []:=by
 refine bP Tryz.func158 [0,1] ?_;have O:=Sat.start W;refine uC 9 ?_;refine u1 1 (ak rfl aA) ?_;refine u1 0 (ak rfl aA) ?_;refine aK 0 0 (aG rfl rfl) ?_ ?_
 ·intro h10;refine uO 10 ?_;refine aS ?_;refine⟨?_,O⟩;rw[decide_eq_false];intro h;rw[h]at h10;omega
 ·intro h10;refine uO 9 ?_;refine u1 4 (ak rfl aA) ?_;intro a I;refine wp_loop_ghost (fun (mm:Nat) a w=>∃(i:Nat),Ag a 26 [(0,.slice A (xs).length c),(1,.slice B (ys).length d),(12,.int .i64 ((xs.length:Nat):Int)),(13,.int .i64 ((i:Nat):Int))]∧Sat W w ([])∧(i≤xs.length)∧(xs.take i=ys.take i)∧mm=xs.length-i) xs.length ?_ ?_
  ·replace I:=I.kp [0,1,12,13] rfl;exact⟨0,I,O,(by omega),(by rfl),by omega⟩
  intro m a w hI;clear O I;obtain⟨i,I,O,hi,he,rfl⟩:=hI;refine rC 2 I ?_;clear I a;refine aK 0 0 (aq rfl rfl) ?_ ?_
  ·intro h14;refine uO 15 ?_;intro a I;refine cD (fun w'=>Sat _ w' _) (by kernel_rfl) (by kernel_rfl) O.drew ?_;refine rQ 2 I ?_;clear I a;obtain⟨A_p,rfl⟩:∃q,A=some q:=(hX.sat O).ao (by omega);obtain⟨x,hx⟩:∃zz_,xs[i]?=some zz_:=⟨_,List.getElem?_eq_getElem (by omega)⟩;refine bc 0 (fun w O=>(ix rfl rfl aA fO)) ?_;refine bc 2 (fun w O=>(aj rfl dE (eO (hX.sat O) (aV hx)))) ?_;obtain⟨B_p,rfl⟩:∃q,B=some q:=(hY.sat O).ao (by omega);obtain⟨y,hy⟩:∃zz_,ys[i]?=some zz_:=⟨_,List.getElem?_eq_getElem (by omega)⟩;refine bc 0 (fun w O=>(ix rfl rfl aA fO)) ?_;refine bc 0 (fun w O=>(aj rfl dE (eO (hY.sat O) (aV hy)))) ?_;intro a I;refine K.rn I rfl rfl rfl (fun w O=>(aG (I.ev rfl) (I.ev rfl))) ?_ ?_
   ·clear I a;intro h24;intro a I;refine wpQuiet_nil ?_;clear O;intro w O;refine rE 13 I ?_;clear I a;refine aS ?_;refine⟨?_,O⟩;rw[decide_eq_false];intro h;rw[h,hy]at hx;cases hx;omega
   ·clear I a;intro h24;intro a I;refine wpQuiet_nil ?_;clear O;intro w O;refine rE 6 I ?_;clear I a;refine u1 2 (ad rfl rfl) ?_;intro a I;replace I:=I.kp [0,1,12,13] rfl;refine⟨xs.length-(i+1),by omega,i+1,I,O,by omega,?_,rfl⟩;rw[ay hx,ay hy,he,show x=y from by omega]
  ·intro h14;refine uO 15 ?_;refine aS ?_;refine⟨?_,O⟩;rw[decide_eq_true];rwa[List.take_of_length_le (by omega),List.take_of_length_le (by omega)]at he
theorem Db (W:World)(A:Option Addr)(c:Nat)(xs:List aN)(B:Option Addr)(d:Nat)(ys:List aN)(hX:gF W A c xs)(hY:gF W B d ys)(hlx:xs.length≤1000000000000000)(hly:ys.length≤1000000000000000):Calls Tryz.prog 159 #[.slice A (xs).length c,.slice B (ys).length d] W fun e w'=>e=.returned (.bool (decide (xs=ys)))∧Sat W w' []:=by
 refine bP Tryz.func159 [0,1] ?_;have O:=Sat.start W;refine uC 9 ?_;refine u1 1 (ak rfl dk) ?_;refine u1 0 (ak rfl dk) ?_;refine aK 0 0 (aG rfl rfl) ?_ ?_
 ·intro h10;refine uO 10 ?_;refine aS ?_;refine⟨?_,O⟩;rw[decide_eq_false];intro h;rw[h]at h10;omega
 ·intro h10;refine uO 9 ?_;refine u1 4 (ak rfl dk) ?_;intro a I;refine wp_loop_ghost (fun (mm:Nat) a w=>∃(i:Nat),Ag a 26 [(0,.slice A (xs).length c),(1,.slice B (ys).length d),(12,.int .i64 ((xs.length:Nat):Int)),(13,.int .i64 ((i:Nat):Int))]∧Sat W w ([])∧(i≤xs.length)∧(xs.take i=ys.take i)∧mm=xs.length-i) xs.length ?_ ?_
  ·replace I:=I.kp [0,1,12,13] rfl;exact⟨0,I,O,(by omega),(by rfl),by omega⟩
  intro m a w hI;clear O I;obtain⟨i,I,O,hi,he,rfl⟩:=hI;refine rC 2 I ?_;clear I a;refine aK 0 0 (aq rfl rfl) ?_ ?_
  ·intro h14;refine uO 15 ?_;intro a I;refine cD (fun w'=>Sat _ w' _) (by kernel_rfl) (by kernel_rfl) O.drew ?_;refine rQ 2 I ?_;clear I a;obtain⟨A_p,rfl⟩:∃q,A=some q:=(hX.sat O).ao (by omega);obtain⟨x,hx⟩:∃zz_,xs[i]?=some zz_:=⟨_,List.getElem?_eq_getElem (by omega)⟩;refine bc 0 (fun w O=>(ix rfl rfl dk cL)) ?_;refine bc 2 (fun w O=>(ax (cs:=gm x) rfl j6 cL (fun j u e=>bI (hX.sat O) (dD hx j u e)))) ?_;obtain⟨B_p,rfl⟩:∃q,B=some q:=(hY.sat O).ao (by omega);obtain⟨y,hy⟩:∃zz_,ys[i]?=some zz_:=⟨_,List.getElem?_eq_getElem (by omega)⟩;refine bc 0 (fun w O=>(ix rfl rfl dk cL)) ?_;refine bc 0 (fun w O=>(ax (cs:=gm y) rfl j6 cL (fun j u e=>bI (hY.sat O) (dD hy j u e)))) ?_;intro a I;refine K.rn I rfl rfl rfl (fun w O=>(xf (I.ev rfl) (I.ev rfl) Gv GJ)) ?_ ?_
   ·clear I a;intro h24;intro a I;refine wpQuiet_nil ?_;clear O;intro w O;refine rE 13 I ?_;clear I a;refine aS ?_;refine⟨?_,O⟩;rw[decide_eq_false];intro h;rw[h,hy]at hx;cases hx;simp at h24
   ·clear I a;intro h24;intro a I;refine wpQuiet_nil ?_;clear O;intro w O;refine rE 6 I ?_;clear I a;refine u1 2 (ad rfl rfl) ?_;intro a I;replace I:=I.kp [0,1,12,13] rfl;refine⟨xs.length-(i+1),by omega,i+1,I,O,by omega,?_,rfl⟩;rw[ay hx,ay hy,he,show x=y from by cases x;cases y;simpa using h24]
  ·intro h14;refine uO 15 ?_;refine aS ?_;refine⟨?_,O⟩;rw[decide_eq_true];rwa[List.take_of_length_le (by omega),List.take_of_length_le (by omega)]at he
theorem Aj (W:World)(W0:World)(L0:List As)(b:Nat)(r n:Int)(s:aN)(s0:Sat W0 W (a6 b (.cells #[.int .i64 r,.int .i64 n] 214)::L0)):Calls Tryz.prog 195 #[.agg #[.int .i64 s.rep,.int .i64 s.lo,.int .i64 s.hi],.pointer (some ⟨b,0,none⟩)] W fun e w'=>e=.returned (.bool (sP s r n))∧Sat W w' []:=by
 refine bP Tryz.func195 [0,1] ?_;have O:=Sat.start W;refine uC 2 ?_;refine uB rfl O ?_;clear O;intro b2 w O;refine uO 5 ?_;refine u1 0 (aa rfl bT) ?_;refine u1 0 (ld rfl) ?_;refine u1 0 (aa rfl bu) ?_;refine u1 0 (aj rfl dE (s0.rk O rfl)) ?_;refine aK 0 0 (aY rfl rfl) ?_ ?_
 ·intro h8;refine uO 1 ?_;refine u1 0 (aa rfl dS) ?_;refine u1 0 (ld rfl) ?_;refine u1 0 (aa rfl bN) ?_;refine u1 0 (aj rfl dE (s0.rk O rfl)) ?_;refine aK 0 0 (dU rfl rfl) ?_ ?_
  ·intro h14;refine uO 2 ?_;refine u1 0 (aa rfl bN) ?_;refine u1 0 (aj rfl dE (s0.rk O rfl)) ?_;refine u1 0 (aa rfl dW) ?_;refine u1 0 (ld rfl) ?_;refine u1 5 (dU rfl rfl) ?_;refine aS ?_;refine⟨?_,O.nil⟩;unfold sP
   congr 2
   rw[Bool.eq_iff_iff];simp only[Bool.and_eq_true,decide_eq_true_eq,Bool.false_eq_true,false_iff];omega
  ·intro h14;refine uO 12 ?_;refine aS ?_;refine⟨?_,O.nil⟩;unfold sP
   congr 2
   rw[Bool.eq_iff_iff];simp only[Bool.and_eq_true,decide_eq_true_eq,Bool.false_eq_true,false_iff];omega
 ·intro h8;refine uO 18 ?_;refine aS ?_;refine⟨?_,O.nil⟩;unfold sP
  congr 2
  rw[Bool.eq_iff_iff];simp only[Bool.and_eq_true,decide_eq_true_eq,Bool.false_eq_true,false_iff];omega
theorem tM (W:World)(W0:World)(L0:List As)(b:Nat)(r n:Int)(A:Option Addr)(c:Nat)(xs:List aN)(s0:Sat W0 W (a6 b (.cells #[.int .i64 r,.int .i64 n] 214)::L0))(hX:gF W A c xs)(hl:xs.length≤1000000000000000):Calls Tryz.prog 245 #[.slice A (xs).length c,.func (.func 195) #[] #[.pointer (some ⟨b,0,none⟩)]] W fun e w'=>∃k:Int,e=.returned (.int .i64 k)∧decide (0≤k)=ky xs r n∧Sat W w' []:=by
 refine bP Tryz.func245 [0,1] ?_;have O:=Sat.start W;refine uC 9 ?_;refine u1 4 (ak rfl dk) ?_;intro a I;refine wp_loop_ghost (fun (mm:Nat) a w=>∃(i:Nat),Ag a 19 [(0,.slice A (xs).length c),(1,.func (.func 195) #[] #[.pointer (some ⟨b,0,none⟩)]),(7,.int .i64 ((xs.length:Nat):Int)),(8,.int .i64 ((i:Nat):Int))]∧Sat W w ([])∧(i≤xs.length)∧((xs.take i).any (fun s=>sP s r n)=false)∧mm=xs.length-i) xs.length ?_ ?_
 ·replace I:=I.kp [0,1,7,8] rfl;exact⟨0,I,O,(by omega),(by rfl),by omega⟩
 intro m a w hI;clear O I;obtain⟨i,I,O,hi,he,rfl⟩:=hI;refine rC 2 I ?_;clear I a;refine aK 0 0 (aq rfl rfl) ?_ ?_
 ·intro h9;refine uO 19 ?_;obtain⟨A_p,rfl⟩:∃q,A=some q:=(hX.sat O).ao (by omega);obtain⟨x,hx⟩:∃zz_,xs[i]?=some zz_:=⟨_,List.getElem?_eq_getElem (by omega)⟩;refine u1 0 (ix rfl rfl dk cL) ?_;refine u1 0 (ax (cs:=gm x) rfl j6 cL (fun j u e=>bI (hX.sat O) (dD hx j u e))) ?_;intro a I;refine AO I rfl IL rfl rfl (Aj _ _ _ b r n x (s0.ag O)) ?_;rintro e w ⟨rfl,hT⟩;replace O:Sat _ _ _:=O.ag hT;clear hT;generalize h16:(sP x r n)=bb;cases bb
  ·refine .inl ⟨_,rfl,?_⟩;clear I a;refine uO 7 ?_;refine u1 2 (ad rfl rfl) ?_;intro a I;replace I:=I.kp [0,1,7,8] rfl;refine⟨xs.length-(i+1),by omega,i+1,I,O,by omega,?_,rfl⟩;rw[ay hx,List.any_append,he];simp[h16]
  ·refine .inl ⟨_,rfl,?_⟩;clear I a;refine uO 15 ?_;refine aS ?_;refine⟨i,rfl,?_,O⟩;rw[iy,decide_eq_true (by omega)];exact (List.any_eq_true.2 ⟨x,List.mem_of_getElem? hx,h16⟩).symm
 ·intro h9;refine uO 15 ?_;refine aS ?_;refine⟨-1,rfl,?_,O⟩;rw[List.take_of_length_le (by omega)]at he;rw[iy,he];rfl
theorem nN (W:World)(W0:World)(L0:List As)(b:Nat)(r n:Int)(A:Option Addr)(c:Nat)(xs:List aN)(s0:Sat W0 W (a6 b (.cells #[.int .i64 r,.int .i64 n] 214)::L0))(hX:gF W A c xs)(hl:xs.length≤1000000000000000):Calls Tryz.prog 194 #[.slice A (xs).length c,.func (.func 195) #[] #[.pointer (some ⟨b,0,none⟩)]] W fun e w'=>e=.returned (.bool (ky xs r n))∧Sat W w' []:=by
 refine bP Tryz.func194 [0,1] ?_;have O:=Sat.start W;refine uC 9 ?_;refine uF rfl (tM _ _ _ b r n A c xs (s0.ag O) (hX.sat O) hl) ?_;rintro e w ⟨k,rfl,hk,hT⟩;replace O:Sat _ _ _:=O.ag hT;clear hT;refine u1 4 (dH rfl rfl) ?_;refine aS ?_;exact⟨by rw[hk],O⟩
theorem wy (W:World)(p:PL)(r n:Int)(hp:p.ok W)(hlv:p.d.vec.length≤1000000000000)(hlc:p.d.ab.length≤1000000000000):Calls Tryz.prog 162 #[.agg #[.slice p.va p.d.vec.length p.vc,.slice p.ca p.d.ab.length p.cc],.agg #[.int .i64 r,.int .i64 n]] W fun e w'=>e=.returned (.bool (hasB p.d r n))∧Sat W w' []:=by
 refine bP Tryz.func162 [0,1] ?_;have O:=Sat.start W;obtain⟨va,vc,ca,cc,d⟩:=p;have hpv:j2 W va vc d.vec:=hp.vec;have hpc:gF W ca cc d.ab:=hp.ab;intro a I;dsimp only at hlv hlc I ⊢;refine rC 2 I ?_;clear I a;refine uB rfl O ?_;clear O;intro b2 w O;refine uB rfl O ?_;clear O;intro b3 w O;refine uO 6 ?_;refine u1 0 (lS (cs:=[_,_]) rfl) ?_;refine uF rfl (sK _ r n) ?_;rintro e w ⟨rfl,hT⟩;replace O:Sat _ _ _:=O.ag hT;clear hT;generalize h6:(dG r n)=bb;cases bb
 ·refine u1 10 (aI rfl) ?_;refine aS ?_;refine⟨?_,O.nil⟩;rw[hasB,h6];rfl
 ·refine u1 7 (aI rfl) ?_;intro a I;refine cD (fun w'=>Sat _ w' _) (by kernel_rfl) (by kernel_rfl) O.drew ?_;refine Q1 0 I (fun w O=>(aa (I.ev rfl) bu)) ?_;clear I a;refine bc 0 (fun w O=>(ld rfl)) ?_;refine bc 0 (fun w O=>(aa rfl cz)) ?_;refine bc 0 (fun w O=>(ld rfl)) ?_;refine bc 0 (fun w O=>(ak rfl aA)) ?_;intro a I;refine K.rn I rfl rfl rfl (fun w O=>(aq (I.ev rfl) (I.ev rfl))) ?_ ?_
  ·clear I a;intro h13;have hdot:=h6;intro a I;unfold dG at hdot;simp only[Bool.and_eq_true,decide_eq_true_eq]at hdot;refine rQ 1 I ?_;clear I a;refine bc 0 (fun w O=>(aa rfl bN)) ?_;refine bc 0 (fun w O=>(ld rfl)) ?_;refine bc 0 (fun w O=>(aa rfl cz)) ?_;refine bc 0 (fun w O=>(ld rfl)) ?_;refine bc 0 (fun w O=>(aa rfl bu)) ?_;refine bc 0 (fun w O=>(ld rfl)) ?_;obtain⟨va_p,rfl⟩:∃q,va=some q:=(hpv.sat O).ao (by omega);obtain⟨v,hv⟩:∃zz_,d.vec[r.toNat]?=some zz_:=⟨_,List.getElem?_eq_getElem (by omega)⟩;refine bc 0 (fun w O=>(ix rfl rfl aA fO)) ?_;refine bc 0 (fun w O=>(aj rfl dE (eO (hpv.sat O) (aV hv)))) ?_;intro a I;refine K.lx I (aL I rfl rfl rfl) rfl rfl (fun w O=>(dU (I.ev rfl) (I.ev rfl))) ?_ ?_
   ·clear I a;intro h23;refine uQ 1 ?_;intro a I;refine wpQuiet_nil ?_;clear O;intro w O;refine rE 9 I ?_;clear I a;refine aS ?_;refine⟨?_,O.nil⟩;have hv2:iC d.vec r n=true:=by unfold iC;rw[hv];simp;omega
    rw[hasB,h6,hv2];simp
   ·clear I a;intro h23;refine uQ 1 ?_;intro a I;refine wpQuiet_nil ?_;clear O;intro w O;refine rE 6 I ?_;clear I a;refine u1 0 (aa rfl bX) ?_;refine u1 0 (ld rfl) ?_;intro a I;refine o1 0 I (qn (I.ml rfl)) ?_;clear I a;refine uF rfl (nN _ _ _ _ r n ca cc d.ab O (hpc.sat O) (by omega)) ?_;rintro e w ⟨rfl,hT⟩;replace O:Sat _ _ _:=O.ag hT;clear hT;refine uO 3 ?_;intro a I;replace I:=I.kp [4] rfl;refine rC 1 I ?_;clear I a;refine aS ?_;refine⟨?_,O.nil⟩;have hv2:iC d.vec r n=false:=by unfold iC;rw[hv];simp;omega
    rw[hasB,h6,hv2];simp
  ·clear I a;intro h13;refine uQ 11 ?_;intro a I;refine wpQuiet_nil ?_;clear O;intro w O;refine rE 6 I ?_;clear I a;refine u1 0 (aa rfl bX) ?_;refine u1 0 (ld rfl) ?_;intro a I;refine o1 0 I (qn (I.ml rfl)) ?_;clear I a;refine uF rfl (nN _ _ _ _ r n ca cc d.ab O (hpc.sat O) (by omega)) ?_;rintro e w ⟨rfl,hT⟩;replace O:Sat _ _ _:=O.ag hT;clear hT;refine uO 3 ?_;intro a I;replace I:=I.kp [4] rfl;refine rC 1 I ?_;clear I a;refine aS ?_;refine⟨?_,O.nil⟩;have hv2:iC d.vec r n=false:=by unfold iC;rw[List.getElem?_eq_none (by omega)]
   rw[hasB,h6,hv2];simp
theorem lP (W:World)(B:Option Addr)(d:Nat)(p:PL)(hB:Rd W 2 (.slice B 1 d) 1 ([p].flatMap nU))(hp:p.ok W)(hl:p.d.ab.length≤10000000000) :
 Calls Tryz.prog 191 #[.slice B 1 d] W fun e w'=>∃t ls,e=.returned (.pointer (some ⟨t,0,none⟩))∧gQ ls (cN p.d)∧Sat W w' [jV 355 t ls,br (ls.map (Loc.iZ 357))]:=by
 refine (tV W B d [p] hB (fun q hq=>by simp at hq;subst hq;exact hp) (by simp) (by simp[cO];omega)).mono ?_;rintro e w' ⟨t,ls,he,hT,O⟩;exact⟨t,ls,he,hT.congr fun r _=>by simp[gq],O⟩
theorem sj {p:aJ}(h:p.ab.length≤10000000000):∀r,r<16→(cN p r).length≤100000000000:=fun r _=>by have:=ek p r;omega
theorem cu (W:World)(p:PL)(hp:p.ok W)(hlc:p.d.ab.length≤10000000000):Calls Tryz.prog 157 #[.agg #[.slice p.va p.d.vec.length p.vc,.slice p.ca p.d.ab.length p.cc]] W fun e w'=>∃q:PL,e=.returned (.agg #[.slice q.va q.d.vec.length q.vc,.slice q.ca q.d.ab.length q.cc])∧q.d=gR p.d∧Sat W w' [cM 3 q.va q.vc q.d.vec,bH 219 q.ca q.cc q.d.ab]:=by
 refine bP Tryz.func157 [0] ?_;have O:=Sat.start W;refine uC 2 ?_;refine uB rfl O ?_;clear O;intro b1 w O;refine uN dK O ?_;clear O;intro b2 w O;refine uO 4 ?_;refine u1 0 (lS (cs:=[_,_]) rfl) ?_;intro a I;refine jf (vss:=[[_,_]]) I rfl rfl fJ pP rfl rfl rfl (by simp) rfl O ?_;clear I a O;intro A4 w O;refine uF rfl (lP _ _ _ p O.rd (hp.sat O) hlc) ?_;rintro e w ⟨t,ls,rfl,hT,hT2⟩;replace O:Sat _ _ (_::_::_):=O.ag hT2;clear hT2;refine uF rfl (lO _ _ _ t ls (cN p.d) O hT (sj hlc)) ?_;rintro e w ⟨q,rfl,hq,hT2⟩;replace O:Sat _ _ (_::_::_):=O.ag hT2;clear hT2;refine uW (vs:=[_,_]) (cs':=[_,_]) rfl rfl bo (O.p 5) ?_;clear O;intro w O;refine uO 3 ?_;intro a I;refine gN I rfl (de (cs:=[_,_]) I rfl fu bo (by exact O.aF (xs:=[_,_]) rfl)) ?_;exact⟨q,rfl,hq,oW ((O.p 2).p 2)⟩
theorem lN (W:World)(A:Option Addr)(c:Nat)(ps:List PL)(hR:Bi W A c ps)(hE:∀p∈ps,p.ok W)(hn:ps.length≤1000000000000)(ht:cO (ps.map PL.d)≤100000000000):Calls Tryz.prog 342 #[.slice A (ps).length c] W fun e w'=>∃q:PL,e=.returned (.agg #[.slice q.va q.d.vec.length q.vc,.slice q.ca q.d.ab.length q.cc])∧q.d=il (ps.map PL.d)∧Sat W w' [cM 3 q.va q.vc q.d.vec,bH 219 q.ca q.cc q.d.ab]:=by
 refine bP Tryz.func342 [0] ?_;have O:=Sat.start W;refine uC 2 ?_;refine uN dK O ?_;clear O;intro b2 w O;refine uO 5 ?_;refine uF rfl (tV _ A c ps (hR.sat O) (fun p hp=>(hE p hp).sat O) hn (by omega)) ?_;rintro e w ⟨t,ls,rfl,hT,hT2⟩;replace O:Sat _ _ (_::_::_):=O.ag hT2;clear hT2;refine uF rfl (lO _ _ _ t ls (gq (ps.map PL.d)) O hT (fun r _=>Nat.le_trans (kg _ r) ht)) ?_;rintro e w ⟨q,rfl,hq,hT2⟩;replace O:Sat _ _ (_::_::_):=O.ag hT2;clear hT2;refine uW (vs:=[_,_]) (cs':=[_,_]) rfl rfl bo (O.p 4) ?_;clear O;intro w O;refine uO 3 ?_;intro a I;refine gN I rfl (de (cs:=[_,_]) I rfl fu bo (by exact O.aF (xs:=[_,_]) rfl)) ?_;exact⟨q,rfl,hq,oW ((O.p 2).p 2)⟩
theorem fB (W:World)(p:PL)(hp:p.ok W)(hlc:p.d.ab.length≤10000000000)(hlv:p.d.vec.length≤1000000000000):Calls Tryz.prog 121 #[.agg #[.slice p.va p.d.vec.length p.vc,.slice p.ca p.d.ab.length p.cc]] W fun e w'=>e=.returned (.bool (bJ p.d))∧Sat W w' []:=by
 refine bP Tryz.func121 [0] ?_;have O:=Sat.start W;refine uC 2 ?_;refine uB rfl O ?_;clear O;intro b1 w O;refine uO 5 ?_;refine u1 0 (lS (cs:=[_,_]) rfl) ?_;refine uF rfl (cu _ p (hp.sat O) hlc) ?_;rintro e w ⟨q,rfl,hq,hT⟩;have hcn:=iI p.d;rw[←hq]at hcn;have hcv:=hcn.len;have hcl:=jF p.d;rw[←hq]at hcl;replace O:Sat _ _ (_::_::_):=O.ag hT;clear hT;refine uN dK O ?_;clear O;intro b3 w O;refine uW (vs:=[_,_]) (cs':=[_,_]) rfl rfl bo O ?_;clear O;intro w O;refine uO 4 ?_;refine u1 0 (aa rfl cz) ?_;refine u1 0 (ld rfl) ?_;refine u1 0 (aa rfl cz) ?_;refine u1 0 (ld rfl) ?_;refine uF rfl (C4 _ p.va p.vc p.d.vec q.va q.vc q.d.vec (hp.vec.sat O) (O.p 1).rd (by omega) (by omega)) ?_;rintro e w ⟨rfl,hT⟩;replace O:Sat _ _ _:=O.ag hT;clear hT;generalize h10:(decide (p.d.vec=q.d.vec))=bb;cases bb
 ·refine uO 11 ?_;refine aS ?_;refine⟨?_,O.nil⟩
  congr 2
  unfold bJ;rw[←hq,eq_comm,decide_eq_false];intro h;rw[h]at h10;simp at h10
 ·refine uO 1 ?_;refine u1 0 (aa rfl bX) ?_;refine u1 0 (ld rfl) ?_;refine u1 0 (aa rfl bX) ?_;refine u1 0 (ld rfl) ?_;refine jR rfl (Db _ p.ca p.cc p.d.ab q.ca q.cc q.d.ab (hp.ab.sat O) (O.p 2).rd (by omega) (by omega)) ?_;rintro e w ⟨rfl,hT⟩;replace O:Sat _ _ _:=O.ag hT;clear hT;generalize h16:(decide (p.d.ab=q.d.ab))=bb;cases bb
  ·refine uO 5 ?_;refine aS ?_;refine⟨?_,O.nil⟩
   congr 2
   unfold bJ;rw[←hq,eq_comm,decide_eq_false];intro h;rw[h]at h16;simp at h16
  ·refine uO 5 ?_;refine aS ?_;refine⟨?_,O.nil⟩
   congr 2
   unfold bJ;rw[←hq,eq_comm,decide_eq_true];simp only[decide_eq_true_eq]at h10 h16;exact tm h10.symm h16.symm
theorem zj (W:World)(p:PL)(hp:p.ok W)(hlc:p.d.ab.length≤10000000000):Calls Tryz.prog 170 #[.agg #[.slice p.va p.d.vec.length p.vc,.slice p.ca p.d.ab.length p.cc]] W fun e w'=>e=.returned (.int .i64 (BV p.d))∧Sat W w' []:=by
 refine bP Tryz.func170 [0] ?_;have O:=Sat.start W;refine uC 2 ?_;refine uB rfl O ?_;clear O;intro b1 w O;refine uO 11 ?_;refine u1 0 (lS (cs:=[_,_]) rfl) ?_;intro a I;refine jf (vss:=[[_,_]]) I rfl rfl fJ pP rfl rfl rfl (by simp) rfl O ?_;clear I a O;intro A7 w O;refine uF rfl (lP _ _ _ p O.rd (hp.sat O) hlc) ?_;rintro e w ⟨t,ls,rfl,hT,hT2⟩;replace O:Sat _ _ (_::_::_):=O.ag hT2;clear hT2;refine u1 4 (aZ rfl) ?_;intro a I;refine wp_loop_ghost (fun (mm:Nat) a w=>∃(r:Nat),Ag a 21 [(3,.int .i64 (((List.range r).map fun r=>cV (aO p.d r)).sum)),(8,.pointer (some ⟨t,0,none⟩)),(10,.int .i64 ((r:Nat):Int))]∧Sat W w ([jV 355 t ls,br (ls.map (Loc.iZ 357))])∧(r≤16)∧mm=16-r) 16 ?_ ?_
 ·replace I:=I.kp [3,8,10] rfl;exact⟨0,I,oW O,(by omega),by omega⟩
 intro m a w hI;clear O I;obtain⟨r,I,O,hr,rfl⟩:=hI;refine rC 2 I ?_;clear I a;refine aK 0 0 (aq rfl rfl) ?_ ?_
 ·intro h11;obtain⟨lA,lc,hl⟩:=hT.get (show r<16 by omega);have hst:=sX p.d r;have hst2:=sX p.d (r+1);intro a I;rw[rH]at hst2;have hrl:=sj hlc r (by omega);refine rO 10 I ?_;clear I a;refine u1 0 (aZ rfl) ?_;refine u1 0 (iA rfl rfl lL iL) ?_;refine u1 6 (aj rfl kN (gL O hl)) ?_;refine uF rfl (Bm _ lA lc (cN p.d r) (rB O.qv hl) (by omega)) ?_;rintro e w ⟨rfl,hT2⟩;replace O:Sat _ _ _:=O.ag hT2;clear hT2;refine u1 5 (ad rfl rfl) ?_;refine u1 2 (ad rfl rfl) ?_;intro a I;replace I:=I.kp [3,8,10] rfl;rw[←rH]at I;exact⟨16-(r+1),by omega,r+1,I,O,by omega,rfl⟩
 ·intro h11;refine uO 16 ?_;refine aS ?_;obtain rfl:r=16:=by omega
  exact⟨rfl,O.nil⟩
theorem gu (W:World)(p:PL)(hp:p.ok W)(hlc:p.d.ab.length≤10000000000):Calls Tryz.prog 125 #[.agg #[.slice p.va p.d.vec.length p.vc,.slice p.ca p.d.ab.length p.cc]] W fun e w'=>e=.returned (.bool (ew p.d))∧Sat W w' []:=by
 refine bP Tryz.func125 [0] ?_;have O:=Sat.start W;refine uC 2 ?_;refine uB rfl O ?_;clear O;intro b1 w O;refine uO 5 ?_;refine u1 0 (lS (cs:=[_,_]) rfl) ?_;refine uF rfl (zj _ p (hp.sat O) hlc) ?_;rintro e w ⟨rfl,hT2⟩;replace O:Sat _ _ _:=O.ag hT2;clear hT2;refine u1 4 (aY rfl rfl) ?_;refine aS ?_;exact⟨rfl,O.nil⟩
end Go.Proofs.YtkjabaihpkbfhaaGreat.Wk
namespace Go.Proofs.YtkjabaihpkbfhaaGreat.K
open Go Go.RowKit
variable {P:Program} {ops:Array Oper} {a:Act} {n:Nat} {E:Env} {w:World} {d:Nat} {ds:List Deferred} {x:Operand} {Q:Exit→Act→World→Prop}
theorem eV {i:Nat}{K:Act→World→Prop}{f:Nat}{l:List Operand}{tys:Array TypeId}{vs caps:List Value}{ty:TypeId}{ps:String}{af:Array Edge}{R:Ending→World→Prop}(I:Ag a n E ds)(hi:ops[i]?=some ⟨some d,.call { callee:=.value x,args:=l.toArray,argTypes:=tys },ty,ps,af,none⟩)
 (hn:Nat.blt d n=true) (hf:enters P f=true) (hx:fC E x=some (.func (.func f) #[] caps.toArray)) (hv:ml E l=some vs) (hc:Calls P f (vs++caps).toArray w R) (k:∀e w',R e w'→∃v,e=.returned v∧∀a',Ag a' n ((d,v)::E) ds→K a' w'):wpOp P ops Q i K a w:=by
 unfold wpOp;simp only[hi];rw[if_pos (by simp[Region.wanted])];refine .inl ?_;have hr:=x6 (P:=P) (w:=w) (dd:=some d) (ty:=ty) (ps:=ps) (af:=af) (g:=none) (tys:=tys) I hf hx hv;simp only[Oper.wp,hr,Oper.upon];refine hc.mono fun e w' h=>?_;obtain⟨v,rfl,hk⟩:=k e w' h;exact hk _ (I.put hn v)
end Go.Proofs.YtkjabaihpkbfhaaGreat.K
namespace Go.Proofs.YtkjabaihpkbfhaaGreat.Wk
open Go Go.RowKit Go.Proofs.YtkjabaihpkbfhaaGreat Go.Proofs.YtkjabaihpkbfhaaGreat.K Go.Proofs.YtkjabaihpkbfhaaGreat.T
theorem kY {xs:List Int}{i:Nat}{x:Int}(h:xs[i]?=some x)(h0:cx (xs.take i)=0)(hx:x≠0):cx xs=x:=by
 conv=>lhs;rw[←List.take_append_drop i xs,cf,if_pos h0,aC h,cx,if_neg hx]
theorem kx {xs:List Int}{i:Nat}{x:Int}(h:xs[i]?=some x)(h0:cx (xs.take i)=0)(hx:x=0):cx (xs.take (i+1))=0:=by
 rw[ay h,cf,if_pos h0,cx,if_pos hx];rfl
theorem du {v:List Int}{r:Nat}{x:Int}(h:v[r]?=some x):av v r=x:=by unfold av;rw[h]
theorem jX {x y:Int}(h:x≠y):gb x y≠0:=fun e=>h (ez.1 e)
theorem sG (W:World)(x:Int)  : Calls Tryz.prog 414 #[.int .i64 x] W fun e w'=>e=.returned (.bool false)∧Sat W w' []:=by
 refine bP Tryz.func414 [0] ?_;have O:=Sat.start W;refine uC 9 ?_;refine u1 4 (dY (aG rfl rfl) (by omega)) ?_;refine aS ?_;exact⟨rfl,O⟩
theorem gv (W:World)(x y:Int)  : Calls Tryz.prog 398 #[.int .i64 x,.int .i64 y] W fun e w'=>e=.returned (.int .i64 (gb x y))∧Sat W w' []:=by
 refine bP Tryz.func398 [0,1] ?_;have O:=Sat.start W;refine uC 8 ?_;refine uF rfl (sG _ x) ?_;rintro e w ⟨rfl,hT⟩;replace O:Sat _ _ _:=O.ag hT;clear hT
 ·refine uO 6 ?_;refine uF rfl (sG _ y) ?_;rintro e w ⟨rfl,hT⟩;replace O:Sat _ _ _:=O.ag hT;clear hT
  ·refine uO 26 ?_;refine aK 0 0 (aq rfl rfl) ?_ ?_
   ·intro h16;refine uO 2 ?_;intro a I;replace I:=I.kp [0,1,4,16] rfl;refine rC 8 I ?_;clear I a;refine aS ?_;refine⟨?_,O⟩;unfold gb
    (repeat' split)<;>rfl
   ·intro h16;refine uO 2 ?_;intro a I;replace I:=I.kp [0,1,4,16] rfl;refine rC 8 I ?_;clear I a;refine aK 0 0 (dx rfl rfl) ?_ ?_
    ·intro h19;refine uO 10 ?_;refine aS ?_;refine⟨?_,O⟩;unfold gb
     (repeat' split)<;>first | rfl | omega
    ·intro h19;refine uO 11 ?_;refine aS ?_;refine⟨?_,O⟩;unfold gb
     (repeat' split)<;>first | rfl | omega
theorem DZ (W:World)(A:Option Addr)(c:Nat)(xs:List Int)(hX:j2 W A c xs)(hl:xs.length≤1000000000000):Calls Tryz.prog 401 #[.slice A (xs).length c] W fun e w'=>e=.returned (.int .i64 (cx xs))∧Sat W w' []:=by
 refine bP Tryz.func401 [0] ?_;have O:=Sat.start W;refine uC 14 ?_;refine u1 4 (ak rfl aA) ?_;intro a I;refine wp_loop_ghost (fun (mm:Nat) a w=>∃(i:Nat),Ag a 18 [(3,.int .i64 0),(6,.slice A (xs).length c),(7,.int .i64 ((xs.length:Nat):Int)),(8,.int .i64 ((i:Nat):Int))]∧Sat W w ([])∧(i≤xs.length)∧(cx (xs.take i)=0)∧mm=xs.length-i) xs.length ?_ ?_
 ·replace I:=I.kp [3,6,7,8] rfl;exact⟨0,I,O,(by omega),(by rfl),by omega⟩
 intro m a w hI;clear O I;obtain⟨i,I,O,hi,he,rfl⟩:=hI;refine rC 2 I ?_;clear I a;refine aK 0 0 (aq rfl rfl) ?_ ?_
 ·intro h9;refine uO 10 ?_;obtain⟨A_p,rfl⟩:∃q,A=some q:=(hX.sat O).ao (by omega);obtain⟨x,hx⟩:∃zz_,xs[i]?=some zz_:=⟨_,List.getElem?_eq_getElem (by omega)⟩;refine u1 0 (ix rfl rfl aA fO) ?_;refine u1 7 (aj rfl dE (eO (hX.sat O) (aV hx))) ?_;refine aK 0 0 (aG rfl rfl) ?_ ?_
  ·intro h14;refine uO 15 ?_;refine aS ?_;exact⟨by rw[kY hx he h14],O⟩
  ·intro h14;refine uO 7 ?_;refine u1 2 (ad rfl rfl) ?_;intro a I;replace I:=I.kp [3,6,7,8] rfl;exact⟨xs.length-(i+1),by omega,i+1,I,O,by omega,kx hx he (by omega),rfl⟩
 ·intro h9;refine uO 16 ?_;refine aS ?_;rw[List.take_of_length_le (by omega)]at he;exact⟨by rw[he],O⟩
theorem vh (W:World)(s t:aN)  : Calls Tryz.prog 400 #[.agg #[.int .i64 s.rep,.int .i64 s.lo,.int .i64 s.hi],.agg #[.int .i64 t.rep,.int .i64 t.lo,.int .i64 t.hi]] W fun e w'=>e=.returned (.int .i64 (iM s t))∧Sat W w' []:=by
 refine bP Tryz.func400 [0,1] ?_;have O:=Sat.start W;refine uC 2 ?_;refine uB rfl O ?_;clear O;intro b2 w O;refine uB rfl O ?_;clear O;intro b3 w O;refine uO 4 ?_;intro a I;refine bj [14,15,16] O (by kernel_rfl) ?_;replace O:=O.drew;refine P1 0 [] I rfl (fun w=>(aa (I.ev rfl) bT)) ?_;clear I a
 refine cP 1 [] rfl (by exact⟨[],O⟩) (fun w hT=>have O:=hT.sat;(ld rfl)) ?_;refine bx 2 [] rfl (fun w=>(aa rfl bT)) ?_;refine cP 3 [] rfl (by exact⟨[],O⟩) (fun w hT=>have O:=hT.sat;(ld rfl)) ?_;refine bx 5 [] rfl (fun w=>(aa rfl dS)) ?_;refine cP 6 [] rfl (by exact⟨[],O⟩) (fun w hT=>have O:=hT.sat;(ld rfl)) ?_;refine bx 7 [] rfl (fun w=>(aa rfl dS)) ?_;refine cP 8 [] rfl (by exact⟨[],O⟩) (fun w hT=>have O:=hT.sat;(ld rfl)) ?_;refine bx 10 [] rfl (fun w=>(aa rfl dW)) ?_;refine cP 11 [] rfl (by exact⟨[],O⟩) (fun w hT=>have O:=hT.sat;(ld rfl)) ?_;refine bx 12 [] rfl (fun w=>(aa rfl dW)) ?_;refine cP 13 [] rfl (by exact⟨[],O⟩) (fun w hT=>have O:=hT.sat;(ld rfl)) ?_;intro a I;refine aD 4 (by kernel_rfl) ?_;refine eF I rfl rfl EE rfl (gv _ s.rep t.rep) ?_
 clear I a;rintro e w ⟨rfl,hT⟩;replace O:Sat _ _ _:=O.ag hT;clear hT;refine⟨_,rfl,?_⟩;intro a I;refine⟨.inr fun _=>(by exact⟨[],O⟩),?_⟩;refine aD 9 (by kernel_rfl) ?_;refine eF I rfl rfl EE rfl (gv _ s.lo t.lo) ?_;clear I a;rintro e w ⟨rfl,hT⟩;replace O:Sat _ _ _:=O.ag hT;clear hT;refine⟨_,rfl,?_⟩;intro a I;refine⟨.inr fun _=>(by exact⟨[],O⟩),?_⟩;refine aD 14 (by kernel_rfl) ?_;refine eF I rfl rfl EE rfl (gv _ s.hi t.hi) ?_;clear I a;rintro e w ⟨rfl,hT⟩;replace O:Sat _ _ _:=O.ag hT;clear hT;refine⟨_,rfl,?_⟩;intro a I;refine⟨.inl rfl,?_⟩;refine aD 15 (by kernel_rfl) ?_;refine eL I rfl rfl rfl aA jN rfl rfl rfl (by simp[Value.oneCell']) O ?_;clear I a O;intro A20 w O;intro a I;refine⟨.inl rfl,?_⟩;refine aD 16 (by kernel_rfl) ?_
 refine eF I rfl rfl IP rfl (DZ _ _ _ [gb s.rep t.rep,gb s.lo t.lo,gb s.hi t.hi] O.rd (by simp)) ?_;clear I a;rintro e w ⟨rfl,hT⟩;replace O:Sat _ _ _:=O.ag hT;clear hT;refine⟨_,rfl,?_⟩;intro a I;refine⟨.inl rfl,?_⟩;refine rX [17] I ?_;clear I a;intro a I;refine ah (by kernel_rfl) ?_ _;refine rE 2 I ?_;clear I a;refine aS ?_;exact⟨rfl,O.nil⟩
theorem uf (W:World)(A:Option Addr)(c:Nat)(xs:List aN)(B:Option Addr)(d:Nat)(ys:List aN)(hX:gF W A c xs)(hY:gF W B d ys)(hlx:xs.length≤1000000000000000)(hly:ys.length≤1000000000000000):Calls Tryz.prog 399 #[.slice A (xs).length c,.slice B (ys).length d,.func (.func 400) #[] #[]] W fun e w'=>e=.returned (.int .i64 (df xs ys))∧Sat W w' []:=by
 refine bP Tryz.func399 [0,1,2] ?_;have O:=Sat.start W;refine uC 9 ?_;refine u1 4 (ak rfl dk) ?_;intro a I;refine wp_loop_ghost (fun (mm:Nat) a w=>∃(i:Nat),Ag a 39 [(0,.slice A (xs).length c),(1,.slice B (ys).length d),(2,.func (.func 400) #[] #[]),(11,.slice A (xs).length c),(12,.int .i64 ((xs.length:Nat):Int)),(13,.int .i64 ((i:Nat):Int))]∧Sat W w ([])∧(i≤xs.length)∧(i≤ys.length)∧(df (xs.drop i) (ys.drop i)=df xs ys)∧mm=xs.length-i) xs.length ?_ ?_
 ·replace I:=I.kp [0,1,2,11,12,13] rfl;exact⟨0,I,O,(by omega),(by omega),(by rfl),by omega⟩
 intro m a w hI;clear O I;obtain⟨i,I,O,hi,hj,he,rfl⟩:=hI;refine rC 2 I ?_;clear I a;refine aK 0 0 (aq rfl rfl) ?_ ?_
 ·intro h14;refine uO 11 ?_;obtain⟨A_p,rfl⟩:∃q,A=some q:=(hX.sat O).ao (by omega);obtain⟨x,hx⟩:∃zz_,xs[i]?=some zz_:=⟨_,List.getElem?_eq_getElem (by omega)⟩;refine u1 0 (ix rfl rfl dk cL) ?_;refine u1 0 (ax (cs:=gm x) rfl j6 cL (fun j u e=>bI (hX.sat O) (dD hx j u e))) ?_;refine uN mn O ?_;clear O;intro b8 w O;refine uO 1 ?_;refine uW (vs:=[_,_,_]) (cs':=[_,_,_]) rfl rfl cL O ?_;clear O;intro w O;refine uO 7 ?_;refine u1 0 (ak rfl dk) ?_;refine aK 0 0 (dH rfl rfl) ?_ ?_
  ·intro h21;refine uO 15 ?_;refine aS ?_;rw[aC hx,List.drop_of_length_le (by omega:ys.length≤i),df]at he;exact⟨by rw[←he],O.nil⟩
  ·intro h21;refine uO 9 ?_;obtain⟨B_p,rfl⟩:∃q,B=some q:=(hY.sat O).ao (by omega);obtain⟨y,hy⟩:∃zz_,ys[i]?=some zz_:=⟨_,List.getElem?_eq_getElem (by omega)⟩;refine u1 0 (ix rfl rfl dk cL) ?_;refine u1 0 (ax (cs:=gm y) rfl j6 cL (fun j u e=>bI (hY.sat O) (dD hy j u e))) ?_;refine uN mn O ?_;clear O;intro b9 w O;refine uW (vs:=[_,_,_]) (cs':=[_,_,_]) rfl rfl cL O ?_;clear O;intro w O;refine uO 5 ?_;refine u1 0 (lS (cs:=[_,_,_]) rfl) ?_;refine u1 0 (lS (cs:=[_,_,_]) rfl) ?_;intro a I;refine AO I rfl Iz rfl rfl (vh _ x y) ?_;rintro e w ⟨rfl,hT⟩;replace O:Sat _ _ _:=O.ag hT;clear hT
   ·refine .inl ⟨_,rfl,?_⟩;clear I a;refine uO 6 ?_;refine aK 0 0 (aG rfl rfl) ?_ ?_
    ·intro h31;refine uO 15 ?_;refine aS ?_;rw[aC hx,aC hy,df,if_neg (by omega)]at he;exact⟨by rw[←he],O.nil⟩
    ·intro h31;refine uO 7 ?_;refine u1 2 (ad rfl rfl) ?_;intro a I;replace I:=I.kp [0,1,2,11,12,13] rfl;rw[aC hx,aC hy,df,if_pos (by omega)]at he;exact⟨xs.length-(i+1),by omega,i+1,I,O.nil,by omega,by omega,he,rfl⟩
 ·intro h14;refine uO 13 ?_;refine u1 1 (ak rfl dk) ?_;refine u1 0 (ak rfl dk) ?_;refine aK 0 0 (aq rfl rfl) ?_ ?_
  ·intro h38;refine uO 8 ?_;intro a I;replace I:=I.kp [6] rfl;refine rC 2 I ?_;clear I a;refine aS ?_;obtain⟨y,hy⟩:∃y,ys[i]?=some y:=⟨_,List.getElem?_eq_getElem (by omega)⟩;rw[aC hy,List.drop_of_length_le (by omega:xs.length≤i),df]at he;exact⟨by rw[←he],O.nil⟩
  ·intro h38;refine uO 11 ?_;refine aS ?_;rw[List.drop_of_length_le (by omega:xs.length≤i),List.drop_of_length_le (by omega:ys.length≤i),df]at he;exact⟨by rw[←he],O.nil⟩
theorem ux (W:World)(p q:PL)(hp:p.ok W)(hq:q.ok W)(hlp:p.d.ab.length≤10000000000)(hlq:q.d.ab.length≤10000000000):Calls Tryz.prog 387 #[.agg #[.slice p.va p.d.vec.length p.vc,.slice p.ca p.d.ab.length p.cc],.agg #[.slice q.va q.d.vec.length q.vc,.slice q.ca q.d.ab.length q.cc]] W fun e w'=>e=.returned (.int .i64 (pG p.d q.d))∧Sat W w' []:=by
 refine bP Tryz.func387 [0,1] ?_;have O:=Sat.start W;refine uC 2 ?_;refine uB rfl O ?_;clear O;intro b2 w O;refine uB rfl O ?_;clear O;intro b3 w O;refine uO 3 ?_;intro a I;replace I:=I.kp [2,3,4] rfl;refine cZ (fun a w=>∃(b5 b6:Nat) (x y:PL),Ag a 49 [(4,.int .i64 0),(5,.pointer (some ⟨b5,0,none⟩)),(6,.pointer (some ⟨b6,0,none⟩))]∧Sat W w ([a6 b5 (.cells #[.slice x.va x.d.vec.length x.vc,.slice x.ca x.d.ab.length x.cc] 63),a6 b6 (.cells #[.slice y.va y.d.vec.length y.vc,.slice y.ca y.d.ab.length y.cc] 63),cM 3 x.va x.vc x.d.vec,bH 219 x.ca x.cc x.d.ab,cM 3 y.va y.vc y.d.vec,bH 219 y.ca y.cc y.d.ab])∧(x.d=gR p.d)∧(y.d=gR q.d)) ?_ ?_
 ·refine bj [3,6,7] O (by kernel_rfl) ?_;replace O:=O.drew;refine X1 0 [] I rfl (by exact⟨[],O⟩) (fun w hT=>have O:=hT.sat;(ax (cs:=[_,_]) (I.ev rfl) fu bo (by exact (O.p 1).aF (xs:=[_,_]) rfl))) ?_;clear I a;refine cP 2 [] rfl (by exact⟨[],O⟩) (fun w hT=>have O:=hT.sat;(lS (cs:=[_,_]) rfl)) ?_;intro a I;refine D9 1 4 5 (by kernel_rfl) ?_ ?_ ?_
  ·refine eF I rfl rfl jH rfl (cu _ p (hp.sat O) hlp) ?_;clear I a;rintro e w ⟨x,rfl,hx,hT⟩;replace O:Sat _ _ (_::_::_):=O.ag hT;clear hT;refine⟨_,rfl,?_⟩;intro a I;refine⟨.inr fun _=>(by exact⟨[_,_],O⟩),?_⟩;refine D9 3 4 5 (by kernel_rfl) ?_ ?_ ?_
   ·refine eF I rfl rfl jH rfl (cu _ q (hq.sat O) hlq) ?_;clear I a;rintro e w ⟨y,rfl,hy,hT⟩;replace O:Sat _ _ (_::_::_):=O.ag hT;clear hT;refine⟨_,rfl,?_⟩;intro a I;refine⟨.inl rfl,?_⟩;refine nr 4 5 (by kernel_rfl) ?_ ?_
    ·refine eN I rfl rfl dK O ?_;clear I a O;intro b5 w O;intro a I;refine⟨.inr fun _=>(by exact⟨[_,_,_,_,_],O⟩),?_⟩;refine aD 5 (by kernel_rfl) ?_;refine eN I rfl rfl dK O ?_;clear I a O;intro b6 w O;intro a I;refine⟨.inr fun _=>(by exact⟨[_,_,_,_,_,_],O⟩),?_⟩;refine aD 6 (by kernel_rfl) ?_;refine dr (vs:=[_,_]) (cs':=[_,_]) I rfl rfl rfl bo (by simp[Value.oneCell']) (O.p 1) rfl rfl ?_;clear O;intro w O;refine⟨.inl rfl,?_⟩;refine aD 7 (by kernel_rfl) ?_;refine dr (vs:=[_,_]) (cs':=[_,_]) I rfl rfl rfl bo (by simp[Value.oneCell']) (O.p 1) rfl rfl ?_;clear O;intro w O;refine⟨.inl rfl,?_⟩;refine ah (by kernel_rfl) ?_ _;replace I:=I.kp [4,5,6] rfl
     first
      | exact⟨b5,b6,x,y,I,((((((O.p 3).p 3).p 5).p 5).p 4).p 5).cW [_,_,_,_,_,_],(by exact hx),(by exact hy)⟩
    ·refine eN I rfl rfl dK O ?_;clear I a O;intro b6 w O;intro a I;refine⟨.inr fun _=>(by exact⟨[_,_,_,_,_],O⟩),?_⟩;refine aD 4 (by kernel_rfl) ?_;refine eN I rfl rfl dK O ?_;clear I a O;intro b5 w O;intro a I;refine⟨.inr fun _=>(by exact⟨[_,_,_,_,_,_],O⟩),?_⟩;refine aD 6 (by kernel_rfl) ?_;refine dr (vs:=[_,_]) (cs':=[_,_]) I rfl rfl rfl bo (by simp[Value.oneCell']) O rfl rfl ?_;clear O;intro w O;refine⟨.inl rfl,?_⟩;refine aD 7 (by kernel_rfl) ?_;refine dr (vs:=[_,_]) (cs':=[_,_]) I rfl rfl rfl bo (by simp[Value.oneCell']) (O.p 1) rfl rfl ?_;clear O;intro w O;refine⟨.inl rfl,?_⟩;refine ah (by kernel_rfl) ?_ _;replace I:=I.kp [4,5,6] rfl
     first
      | exact⟨b5,b6,x,y,I,((((((O.p 3).p 3).p 5).p 5).p 4).p 5).cW [_,_,_,_,_,_],(by exact hx),(by exact hy)⟩
   ·refine eN I rfl rfl dK O ?_;clear I a O;intro b5 w O;intro a I;refine⟨.inr fun _=>(by exact⟨[_,_,_],O⟩),?_⟩;refine nr 3 5 (by kernel_rfl) ?_ ?_
    ·refine eF I rfl rfl jH rfl (cu _ q (hq.sat O) hlq) ?_;clear I a;rintro e w ⟨y,rfl,hy,hT⟩;replace O:Sat _ _ (_::_::_):=O.ag hT;clear hT;refine⟨_,rfl,?_⟩;intro a I;refine⟨.inl rfl,?_⟩;refine aD 5 (by kernel_rfl) ?_;refine eN I rfl rfl dK O ?_;clear I a O;intro b6 w O;intro a I;refine⟨.inr fun _=>(by exact⟨[_,_,_,_,_,_],O⟩),?_⟩;refine aD 6 (by kernel_rfl) ?_;refine dr (vs:=[_,_]) (cs':=[_,_]) I rfl rfl rfl bo (by simp[Value.oneCell']) (O.p 3) rfl rfl ?_;clear O;intro w O;refine⟨.inl rfl,?_⟩;refine aD 7 (by kernel_rfl) ?_;refine dr (vs:=[_,_]) (cs':=[_,_]) I rfl rfl rfl bo (by simp[Value.oneCell']) (O.p 1) rfl rfl ?_;clear O;intro w O;refine⟨.inl rfl,?_⟩;refine ah (by kernel_rfl) ?_ _;replace I:=I.kp [4,5,6] rfl
     first
      | exact⟨b5,b6,x,y,I,((((((O.p 3).p 3).p 5).p 5).p 4).p 5).cW [_,_,_,_,_,_],(by exact hx),(by exact hy)⟩
    ·refine eN I rfl rfl dK O ?_;clear I a O;intro b6 w O;intro a I;refine⟨.inr fun _=>(by exact⟨[_,_,_,_],O⟩),?_⟩;refine aD 3 (by kernel_rfl) ?_;refine eF I rfl rfl jH rfl (cu _ q (hq.sat O) hlq) ?_;clear I a;rintro e w ⟨y,rfl,hy,hT⟩;replace O:Sat _ _ (_::_::_):=O.ag hT;clear hT;refine⟨_,rfl,?_⟩;intro a I;refine⟨.inl rfl,?_⟩;refine aD 6 (by kernel_rfl) ?_;refine dr (vs:=[_,_]) (cs':=[_,_]) I rfl rfl rfl bo (by simp[Value.oneCell']) (O.p 3) rfl rfl ?_;clear O;intro w O;refine⟨.inl rfl,?_⟩;refine aD 7 (by kernel_rfl) ?_;refine dr (vs:=[_,_]) (cs':=[_,_]) I rfl rfl rfl bo (by simp[Value.oneCell']) (O.p 3) rfl rfl ?_;clear O;intro w O;refine⟨.inl rfl,?_⟩;refine ah (by kernel_rfl) ?_ _;replace I:=I.kp [4,5,6] rfl
     first
      | exact⟨b5,b6,x,y,I,((((((O.p 3).p 3).p 5).p 5).p 4).p 5).cW [_,_,_,_,_,_],(by exact hx),(by exact hy)⟩
   ·refine eN I rfl rfl dK O ?_;clear I a O;intro b6 w O;intro a I;refine⟨.inr fun _=>(by exact⟨[_,_,_],O⟩),?_⟩;refine nr 3 4 (by kernel_rfl) ?_ ?_
    ·refine eF I rfl rfl jH rfl (cu _ q (hq.sat O) hlq) ?_;clear I a;rintro e w ⟨y,rfl,hy,hT⟩;replace O:Sat _ _ (_::_::_):=O.ag hT;clear hT;refine⟨_,rfl,?_⟩;intro a I;refine⟨.inl rfl,?_⟩;refine aD 4 (by kernel_rfl) ?_;refine eN I rfl rfl dK O ?_;clear I a O;intro b5 w O;intro a I;refine⟨.inr fun _=>(by exact⟨[_,_,_,_,_,_],O⟩),?_⟩;refine aD 6 (by kernel_rfl) ?_;refine dr (vs:=[_,_]) (cs':=[_,_]) I rfl rfl rfl bo (by simp[Value.oneCell']) O rfl rfl ?_;clear O;intro w O;refine⟨.inl rfl,?_⟩;refine aD 7 (by kernel_rfl) ?_;refine dr (vs:=[_,_]) (cs':=[_,_]) I rfl rfl rfl bo (by simp[Value.oneCell']) (O.p 3) rfl rfl ?_;clear O;intro w O;refine⟨.inl rfl,?_⟩;refine ah (by kernel_rfl) ?_ _;replace I:=I.kp [4,5,6] rfl
     first
      | exact⟨b5,b6,x,y,I,((((((O.p 3).p 3).p 5).p 5).p 4).p 5).cW [_,_,_,_,_,_],(by exact hx),(by exact hy)⟩
    ·refine eN I rfl rfl dK O ?_;clear I a O;intro b5 w O;intro a I;refine⟨.inr fun _=>(by exact⟨[_,_,_,_],O⟩),?_⟩;refine aD 3 (by kernel_rfl) ?_;refine eF I rfl rfl jH rfl (cu _ q (hq.sat O) hlq) ?_;clear I a;rintro e w ⟨y,rfl,hy,hT⟩;replace O:Sat _ _ (_::_::_):=O.ag hT;clear hT;refine⟨_,rfl,?_⟩;intro a I;refine⟨.inl rfl,?_⟩;refine aD 6 (by kernel_rfl) ?_;refine dr (vs:=[_,_]) (cs':=[_,_]) I rfl rfl rfl bo (by simp[Value.oneCell']) (O.p 2) rfl rfl ?_;clear O;intro w O;refine⟨.inl rfl,?_⟩;refine aD 7 (by kernel_rfl) ?_;refine dr (vs:=[_,_]) (cs':=[_,_]) I rfl rfl rfl bo (by simp[Value.oneCell']) (O.p 3) rfl rfl ?_;clear O;intro w O;refine⟨.inl rfl,?_⟩;refine ah (by kernel_rfl) ?_ _;replace I:=I.kp [4,5,6] rfl
     first
      | exact⟨b5,b6,x,y,I,((((((O.p 3).p 3).p 5).p 5).p 4).p 5).cW [_,_,_,_,_,_],(by exact hx),(by exact hy)⟩
  ·refine eN I rfl rfl dK O ?_;clear I a O;intro b5 w O;intro a I;refine⟨.inr fun _=>(by exact⟨[_],O⟩),?_⟩;refine nr 1 5 (by kernel_rfl) ?_ ?_
   ·refine eF I rfl rfl jH rfl (cu _ p (hp.sat O) hlp) ?_;clear I a;rintro e w ⟨x,rfl,hx,hT⟩;replace O:Sat _ _ (_::_::_):=O.ag hT;clear hT;refine⟨_,rfl,?_⟩;intro a I;refine⟨.inr fun _=>(by exact⟨[_,_,_],O⟩),?_⟩;refine nr 3 5 (by kernel_rfl) ?_ ?_
    ·refine eF I rfl rfl jH rfl (cu _ q (hq.sat O) hlq) ?_;clear I a;rintro e w ⟨y,rfl,hy,hT⟩;replace O:Sat _ _ (_::_::_):=O.ag hT;clear hT;refine⟨_,rfl,?_⟩;intro a I;refine⟨.inl rfl,?_⟩;refine aD 5 (by kernel_rfl) ?_;refine eN I rfl rfl dK O ?_;clear I a O;intro b6 w O;intro a I;refine⟨.inr fun _=>(by exact⟨[_,_,_,_,_,_],O⟩),?_⟩;refine aD 6 (by kernel_rfl) ?_;refine dr (vs:=[_,_]) (cs':=[_,_]) I rfl rfl rfl bo (by simp[Value.oneCell']) (O.p 5) rfl rfl ?_;clear O;intro w O;refine⟨.inl rfl,?_⟩;refine aD 7 (by kernel_rfl) ?_;refine dr (vs:=[_,_]) (cs':=[_,_]) I rfl rfl rfl bo (by simp[Value.oneCell']) (O.p 1) rfl rfl ?_;clear O;intro w O;refine⟨.inl rfl,?_⟩;refine ah (by kernel_rfl) ?_ _;replace I:=I.kp [4,5,6] rfl
     first
      | exact⟨b5,b6,x,y,I,((((((O.p 3).p 3).p 5).p 5).p 4).p 5).cW [_,_,_,_,_,_],(by exact hx),(by exact hy)⟩
    ·refine eN I rfl rfl dK O ?_;clear I a O;intro b6 w O;intro a I;refine⟨.inr fun _=>(by exact⟨[_,_,_,_],O⟩),?_⟩;refine aD 3 (by kernel_rfl) ?_;refine eF I rfl rfl jH rfl (cu _ q (hq.sat O) hlq) ?_;clear I a;rintro e w ⟨y,rfl,hy,hT⟩;replace O:Sat _ _ (_::_::_):=O.ag hT;clear hT;refine⟨_,rfl,?_⟩;intro a I;refine⟨.inl rfl,?_⟩;refine aD 6 (by kernel_rfl) ?_;refine dr (vs:=[_,_]) (cs':=[_,_]) I rfl rfl rfl bo (by simp[Value.oneCell']) (O.p 5) rfl rfl ?_;clear O;intro w O;refine⟨.inl rfl,?_⟩;refine aD 7 (by kernel_rfl) ?_;refine dr (vs:=[_,_]) (cs':=[_,_]) I rfl rfl rfl bo (by simp[Value.oneCell']) (O.p 3) rfl rfl ?_;clear O;intro w O;refine⟨.inl rfl,?_⟩;refine ah (by kernel_rfl) ?_ _;replace I:=I.kp [4,5,6] rfl
     first
      | exact⟨b5,b6,x,y,I,((((((O.p 3).p 3).p 5).p 5).p 4).p 5).cW [_,_,_,_,_,_],(by exact hx),(by exact hy)⟩
   ·refine eN I rfl rfl dK O ?_;clear I a O;intro b6 w O;intro a I;refine⟨.inr fun _=>(by exact⟨[_,_],O⟩),?_⟩;refine aD 1 (by kernel_rfl) ?_;refine eF I rfl rfl jH rfl (cu _ p (hp.sat O) hlp) ?_;clear I a;rintro e w ⟨x,rfl,hx,hT⟩;replace O:Sat _ _ (_::_::_):=O.ag hT;clear hT;refine⟨_,rfl,?_⟩;intro a I;refine⟨.inr fun _=>(by exact⟨[_,_,_,_],O⟩),?_⟩;refine aD 3 (by kernel_rfl) ?_;refine eF I rfl rfl jH rfl (cu _ q (hq.sat O) hlq) ?_;clear I a;rintro e w ⟨y,rfl,hy,hT⟩;replace O:Sat _ _ (_::_::_):=O.ag hT;clear hT;refine⟨_,rfl,?_⟩;intro a I;refine⟨.inl rfl,?_⟩;refine aD 6 (by kernel_rfl) ?_;refine dr (vs:=[_,_]) (cs':=[_,_]) I rfl rfl rfl bo (by simp[Value.oneCell']) (O.p 5) rfl rfl ?_;clear O;intro w O;refine⟨.inl rfl,?_⟩;refine aD 7 (by kernel_rfl) ?_
    refine dr (vs:=[_,_]) (cs':=[_,_]) I rfl rfl rfl bo (by simp[Value.oneCell']) (O.p 5) rfl rfl ?_;clear O;intro w O;refine⟨.inl rfl,?_⟩;refine ah (by kernel_rfl) ?_ _;replace I:=I.kp [4,5,6] rfl
    first
     | exact⟨b5,b6,x,y,I,((((((O.p 3).p 3).p 5).p 5).p 4).p 5).cW [_,_,_,_,_,_],(by exact hx),(by exact hy)⟩
  ·refine eN I rfl rfl dK O ?_;clear I a O;intro b6 w O;intro a I;refine⟨.inr fun _=>(by exact⟨[_],O⟩),?_⟩;refine nr 1 4 (by kernel_rfl) ?_ ?_
   ·refine eF I rfl rfl jH rfl (cu _ p (hp.sat O) hlp) ?_;clear I a;rintro e w ⟨x,rfl,hx,hT⟩;replace O:Sat _ _ (_::_::_):=O.ag hT;clear hT;refine⟨_,rfl,?_⟩;intro a I;refine⟨.inr fun _=>(by exact⟨[_,_,_],O⟩),?_⟩;refine nr 3 4 (by kernel_rfl) ?_ ?_
    ·refine eF I rfl rfl jH rfl (cu _ q (hq.sat O) hlq) ?_;clear I a;rintro e w ⟨y,rfl,hy,hT⟩;replace O:Sat _ _ (_::_::_):=O.ag hT;clear hT;refine⟨_,rfl,?_⟩;intro a I;refine⟨.inl rfl,?_⟩;refine aD 4 (by kernel_rfl) ?_;refine eN I rfl rfl dK O ?_;clear I a O;intro b5 w O;intro a I;refine⟨.inr fun _=>(by exact⟨[_,_,_,_,_,_],O⟩),?_⟩;refine aD 6 (by kernel_rfl) ?_;refine dr (vs:=[_,_]) (cs':=[_,_]) I rfl rfl rfl bo (by simp[Value.oneCell']) O rfl rfl ?_;clear O;intro w O;refine⟨.inl rfl,?_⟩;refine aD 7 (by kernel_rfl) ?_;refine dr (vs:=[_,_]) (cs':=[_,_]) I rfl rfl rfl bo (by simp[Value.oneCell']) (O.p 5) rfl rfl ?_;clear O;intro w O;refine⟨.inl rfl,?_⟩;refine ah (by kernel_rfl) ?_ _;replace I:=I.kp [4,5,6] rfl
     first
      | exact⟨b5,b6,x,y,I,((((((O.p 3).p 3).p 5).p 5).p 4).p 5).cW [_,_,_,_,_,_],(by exact hx),(by exact hy)⟩
    ·refine eN I rfl rfl dK O ?_;clear I a O;intro b5 w O;intro a I;refine⟨.inr fun _=>(by exact⟨[_,_,_,_],O⟩),?_⟩;refine aD 3 (by kernel_rfl) ?_;refine eF I rfl rfl jH rfl (cu _ q (hq.sat O) hlq) ?_;clear I a;rintro e w ⟨y,rfl,hy,hT⟩;replace O:Sat _ _ (_::_::_):=O.ag hT;clear hT;refine⟨_,rfl,?_⟩;intro a I;refine⟨.inl rfl,?_⟩;refine aD 6 (by kernel_rfl) ?_;refine dr (vs:=[_,_]) (cs':=[_,_]) I rfl rfl rfl bo (by simp[Value.oneCell']) (O.p 2) rfl rfl ?_;clear O;intro w O;refine⟨.inl rfl,?_⟩;refine aD 7 (by kernel_rfl) ?_;refine dr (vs:=[_,_]) (cs':=[_,_]) I rfl rfl rfl bo (by simp[Value.oneCell']) (O.p 5) rfl rfl ?_;clear O;intro w O;refine⟨.inl rfl,?_⟩;refine ah (by kernel_rfl) ?_ _;replace I:=I.kp [4,5,6] rfl
     first
      | exact⟨b5,b6,x,y,I,((((((O.p 3).p 3).p 5).p 5).p 4).p 5).cW [_,_,_,_,_,_],(by exact hx),(by exact hy)⟩
   ·refine eN I rfl rfl dK O ?_;clear I a O;intro b5 w O;intro a I;refine⟨.inr fun _=>(by exact⟨[_,_],O⟩),?_⟩;refine aD 1 (by kernel_rfl) ?_;refine eF I rfl rfl jH rfl (cu _ p (hp.sat O) hlp) ?_;clear I a;rintro e w ⟨x,rfl,hx,hT⟩;replace O:Sat _ _ (_::_::_):=O.ag hT;clear hT;refine⟨_,rfl,?_⟩;intro a I;refine⟨.inr fun _=>(by exact⟨[_,_,_,_],O⟩),?_⟩;refine aD 3 (by kernel_rfl) ?_;refine eF I rfl rfl jH rfl (cu _ q (hq.sat O) hlq) ?_;clear I a;rintro e w ⟨y,rfl,hy,hT⟩;replace O:Sat _ _ (_::_::_):=O.ag hT;clear hT;refine⟨_,rfl,?_⟩;intro a I;refine⟨.inl rfl,?_⟩;refine aD 6 (by kernel_rfl) ?_;refine dr (vs:=[_,_]) (cs':=[_,_]) I rfl rfl rfl bo (by simp[Value.oneCell']) (O.p 4) rfl rfl ?_;clear O;intro w O;refine⟨.inl rfl,?_⟩;refine aD 7 (by kernel_rfl) ?_
    refine dr (vs:=[_,_]) (cs':=[_,_]) I rfl rfl rfl bo (by simp[Value.oneCell']) (O.p 5) rfl rfl ?_;clear O;intro w O;refine⟨.inl rfl,?_⟩;refine ah (by kernel_rfl) ?_ _;replace I:=I.kp [4,5,6] rfl
    first
     | exact⟨b5,b6,x,y,I,((((((O.p 3).p 3).p 5).p 5).p 4).p 5).cW [_,_,_,_,_,_],(by exact hx),(by exact hy)⟩
 ·intro a w hI;clear O I;obtain⟨b5,b6,x,y,I,O,hx,hy⟩:=hI;have hcx:=iI p.d;rw[←hx]at hcx;have hcy:=iI q.d;rw[←hy]at hcy;have hlx:=jF p.d;rw[←hx]at hlx;have hly:=jF q.d;rw[←hy]at hly;have hxv:=hcx.len;have hyv:=hcy.len;obtain⟨xva,xvc,xca,xcc,xd⟩:=x;obtain⟨yva,yvc,yca,ycc,yd⟩:=y;dsimp only at O I hx hy hcx hcy hlx hly hxv hyv;refine rC 7 I ?_;clear I a;intro a I
  refine wp_loop_ghost (fun (mm:Nat) a w=>∃(r:Nat),Ag a 49 [(5,.pointer (some ⟨b5,0,none⟩)),(6,.pointer (some ⟨b6,0,none⟩)),(14,.int .i64 ((r:Nat):Int))]∧Sat W w ([a6 b5 (.cells #[.slice xva xd.vec.length xvc,.slice xca xd.ab.length xcc] 63),a6 b6 (.cells #[.slice yva yd.vec.length yvc,.slice yca yd.ab.length ycc] 63),cM 3 xva xvc xd.vec,bH 219 xca xcc xd.ab,cM 3 yva yvc yd.vec,bH 219 yca ycc yd.ab])∧(r≤16)∧(cx (((List.range 16).map fun r=>gb (av xd.vec r) (av yd.vec r)).take r)=0)∧mm=16-r) 16 ?_ ?_
  ·replace I:=I.kp [5,6,14] rfl;exact⟨0,I,O,(by omega),(by rfl),by omega⟩
  intro m a w hI;clear O I;obtain⟨r,I,O,hr,he,rfl⟩:=hI;refine rC 2 I ?_;clear I a;refine aK 0 0 (aq rfl rfl) ?_ ?_
  ·intro h15;refine uO 24 ?_;refine u1 0 (aa rfl cz) ?_;refine u1 0 (ld rfl) ?_;refine u1 0 (ak rfl aA) ?_;refine aK 0 0 (aq rfl rfl) ?_ ?_
   ·intro h21;refine uO 4 ?_;refine u1 0 (aa rfl cz) ?_;refine u1 1 (ld rfl) ?_;obtain⟨xva_p,rfl⟩:∃q,xva=some q:=(O.p 2).rd.ao (by omega);obtain⟨v1,hv1⟩:∃zz_,xd.vec[r]?=some zz_:=⟨_,List.getElem?_eq_getElem (by omega)⟩;refine u1 0 (ix rfl rfl aA fO) ?_;refine u1 7 (aj rfl dE (eO (O.p 2).rd (aV hv1))) ?_;refine u1 0 (aa rfl cz) ?_;refine u1 0 (ld rfl) ?_;refine u1 0 (ak rfl aA) ?_;refine aK 0 0 (aq rfl rfl) ?_ ?_
    ·intro h31;refine uO 4 ?_;refine u1 0 (aa rfl cz) ?_;refine u1 1 (ld rfl) ?_;obtain⟨yva_p,rfl⟩:∃q,yva=some q:=(O.p 4).rd.ao (by omega);obtain⟨v2,hv2⟩:∃zz_,yd.vec[r]?=some zz_:=⟨_,List.getElem?_eq_getElem (by omega)⟩;refine u1 0 (ix rfl rfl aA fO) ?_;refine u1 7 (aj rfl dE (eO (O.p 4).rd (aV hv2))) ?_;refine aK 0 0 (aG rfl rfl) ?_ ?_
     ·intro h39;refine uO 7 ?_;refine uF rfl (gv _ _ _) ?_;rintro e w ⟨rfl,hT⟩;replace O:Sat _ _ _:=O.ag hT;clear hT;refine uO 9 ?_;refine aS ?_;have hg:((List.range 16).map fun r=>gb (av xd.vec r) (av yd.vec r))[r]?=some (gb (av xd.vec r) (av yd.vec r)):=by rw[List.getElem?_map,List.getElem?_range (by omega)];rfl
      have hvx:=du hv1;have hvy:=du hv2;have hne:gb (av xd.vec r) (av yd.vec r)≠0:=by rw[hvx,hvy];exact jX h39
      have hz:=kY hg he hne;refine⟨?_,O.nil⟩;unfold pG se;rw[←hx,←hy,cf,hz,if_neg hne,hvx,hvy]
     ·intro h39;refine uO 7 ?_;refine u1 2 (ad rfl rfl) ?_;intro a I;replace I:=I.kp [5,6,14] rfl;have hg:((List.range 16).map fun r=>gb (av xd.vec r) (av yd.vec r))[r]?=some (gb (av xd.vec r) (av yd.vec r)):=by rw[List.getElem?_map,List.getElem?_range (by omega)];rfl
      have hvx:=du hv1;have hvy:=du hv2;exact⟨16-(r+1),by omega,r+1,I,O,by omega,kx hg he (by rw[hvx,hvy];exact ez.2 (by omega)),rfl⟩
    ·intro h31;refine uO 9 ?_;refine aK 0 0 (aG rfl rfl) ?_ ?_
     ·intro h39;refine uO 7 ?_;refine uF rfl (gv _ _ _) ?_;rintro e w ⟨rfl,hT⟩;replace O:Sat _ _ _:=O.ag hT;clear hT;refine uO 9 ?_;refine aS ?_;have hg:((List.range 16).map fun r=>gb (av xd.vec r) (av yd.vec r))[r]?=some (gb (av xd.vec r) (av yd.vec r)):=by rw[List.getElem?_map,List.getElem?_range (by omega)];rfl
      have hvx:=du hv1;have hvy:av yd.vec r=0:=ey (by omega);have hne:gb (av xd.vec r) (av yd.vec r)≠0:=by rw[hvx,hvy];exact jX h39
      have hz:=kY hg he hne;refine⟨?_,O.nil⟩;unfold pG se;rw[←hx,←hy,cf,hz,if_neg hne,hvx,hvy]
     ·intro h39;refine uO 7 ?_;refine u1 2 (ad rfl rfl) ?_;intro a I;replace I:=I.kp [5,6,14] rfl;have hg:((List.range 16).map fun r=>gb (av xd.vec r) (av yd.vec r))[r]?=some (gb (av xd.vec r) (av yd.vec r)):=by rw[List.getElem?_map,List.getElem?_range (by omega)];rfl
      have hvx:=du hv1;have hvy:av yd.vec r=0:=ey (by omega);exact⟨16-(r+1),by omega,r+1,I,O,by omega,kx hg he (by rw[hvx,hvy];exact ez.2 (by omega)),rfl⟩
   ·intro h21;refine uO 9 ?_;refine u1 0 (aa rfl cz) ?_;refine u1 0 (ld rfl) ?_;refine u1 0 (ak rfl aA) ?_;refine aK 0 0 (aq rfl rfl) ?_ ?_
    ·intro h31;refine uO 4 ?_;refine u1 0 (aa rfl cz) ?_;refine u1 1 (ld rfl) ?_;obtain⟨yva_p,rfl⟩:∃q,yva=some q:=(O.p 4).rd.ao (by omega);obtain⟨v2,hv2⟩:∃zz_,yd.vec[r]?=some zz_:=⟨_,List.getElem?_eq_getElem (by omega)⟩;refine u1 0 (ix rfl rfl aA fO) ?_;refine u1 7 (aj rfl dE (eO (O.p 4).rd (aV hv2))) ?_;refine aK 0 0 (aG rfl rfl) ?_ ?_
     ·intro h39;refine uO 7 ?_;refine uF rfl (gv _ _ _) ?_;rintro e w ⟨rfl,hT⟩;replace O:Sat _ _ _:=O.ag hT;clear hT;refine uO 9 ?_;refine aS ?_;have hg:((List.range 16).map fun r=>gb (av xd.vec r) (av yd.vec r))[r]?=some (gb (av xd.vec r) (av yd.vec r)):=by rw[List.getElem?_map,List.getElem?_range (by omega)];rfl
      have hvx:av xd.vec r=0:=ey (by omega);have hvy:=du hv2;have hne:gb (av xd.vec r) (av yd.vec r)≠0:=by rw[hvx,hvy];exact jX h39
      have hz:=kY hg he hne;refine⟨?_,O.nil⟩;unfold pG se;rw[←hx,←hy,cf,hz,if_neg hne,hvx,hvy]
     ·intro h39;refine uO 7 ?_;refine u1 2 (ad rfl rfl) ?_;intro a I;replace I:=I.kp [5,6,14] rfl;have hg:((List.range 16).map fun r=>gb (av xd.vec r) (av yd.vec r))[r]?=some (gb (av xd.vec r) (av yd.vec r)):=by rw[List.getElem?_map,List.getElem?_range (by omega)];rfl
      have hvx:av xd.vec r=0:=ey (by omega);have hvy:=du hv2;exact⟨16-(r+1),by omega,r+1,I,O,by omega,kx hg he (by rw[hvx,hvy];exact ez.2 (by omega)),rfl⟩
    ·intro h31;refine uO 9 ?_;refine u1 7 (dY (aG rfl rfl) (by omega)) ?_;refine u1 2 (ad rfl rfl) ?_;intro a I;replace I:=I.kp [5,6,14] rfl;have hg:((List.range 16).map fun r=>gb (av xd.vec r) (av yd.vec r))[r]?=some (gb (av xd.vec r) (av yd.vec r)):=by rw[List.getElem?_map,List.getElem?_range (by omega)];rfl
     have hvx:av xd.vec r=0:=ey (by omega);have hvy:av yd.vec r=0:=ey (by omega);exact⟨16-(r+1),by omega,r+1,I,O,by omega,kx hg he (by rw[hvx,hvy];exact ez.2 (by omega)),rfl⟩
  ·intro h15;refine uO 11 ?_;refine u1 0 (aa rfl bX) ?_;refine u1 0 (ld rfl) ?_;refine u1 0 (aa rfl bX) ?_;refine u1 0 (ld rfl) ?_;refine uF rfl (uf _ xca xcc xd.ab yca ycc yd.ab (O.p 3).rd (O.p 5).rd (by omega) (by omega)) ?_;rintro e w ⟨rfl,hT⟩;replace O:Sat _ _ _:=O.ag hT;clear hT;refine uO 4 ?_;refine aS ?_;rw[List.take_of_length_le (by simp;omega)]at he;refine⟨?_,O.nil⟩;unfold pG se;rw[←hx,←hy,cf,he,if_pos rfl,cx]
   split<;>rename_i hc
   ·rw[hc];rfl
   ·rfl
theorem pr (W:World)(p q:PL)(hp:p.ok W)(hq:q.ok W)(hlp:p.d.ab.length≤10000000000)(hlq:q.d.ab.length≤10000000000):Calls Tryz.prog 354 #[.agg #[.slice p.va p.d.vec.length p.vc,.slice p.ca p.d.ab.length p.cc],.agg #[.slice q.va q.d.vec.length q.vc,.slice q.ca q.d.ab.length q.cc]] W fun e w'=>e=.returned (.bool (ck p.d q.d))∧Sat W w' []:=by
 refine bP Tryz.func354 [0,1] ?_;have O:=Sat.start W;refine uC 2 ?_;refine uB rfl O ?_;clear O;intro b2 w O;refine uB rfl O ?_;clear O;intro b3 w O;refine uO 3 ?_;intro a I;replace I:=I.kp [2,3,4] rfl;refine cZ (fun a w=>∃(t1 t2:Nat) (ls1 ls2:List (Loc bq)),Ag a 39 [(4,.bool false),(5,.pointer (some ⟨t1,0,none⟩)),(6,.pointer (some ⟨t2,0,none⟩))]∧Sat W w ([jV 355 t1 ls1,br (ls1.map (Loc.iZ 357)),jV 355 t2 ls2,br (ls2.map (Loc.iZ 357))])∧(gQ ls1 (cN p.d))∧(gQ ls2 (cN q.d))) ?_ ?_
 ·refine bj [5] O (by kernel_rfl) ?_;replace O:=O.drew;refine X1 0 [] I rfl (by exact⟨[],O⟩) (fun w hT=>have O:=hT.sat;(ax (cs:=[_,_]) (I.ev rfl) fu bo (by exact (O.p 1).aF (xs:=[_,_]) rfl))) ?_;clear I a;refine cP 3 [] rfl (by exact⟨[],O⟩) (fun w hT=>have O:=hT.sat;(lS (cs:=[_,_]) rfl)) ?_;intro a I;refine nr 1 4 (by kernel_rfl) ?_ ?_
  ·refine vB (vss:=[[_,_]]) I rfl rfl rfl fJ pP rfl rfl rfl (by simp) rfl O ?_;clear I a O;intro A9 w O;intro a I;refine⟨.inr fun _=>(by exact⟨[_],O⟩),?_⟩;refine nr 2 4 (by kernel_rfl) ?_ ?_
   ·refine eF I rfl rfl nz rfl (lP _ _ _ p (by exact O.rd) (hp.sat O) hlp) ?_;clear I a;rintro e w ⟨t1,ls1,rfl,hT1,hT⟩;replace O:Sat _ _ (_::_::_):=O.ag hT;clear hT;refine⟨_,rfl,?_⟩;intro a I;refine⟨.inr fun _=>(by exact⟨[_,_,_],O⟩),?_⟩;refine aD 4 (by kernel_rfl) ?_;refine vB (vss:=[[_,_]]) I rfl rfl rfl fJ pP rfl rfl rfl (by simp) rfl O ?_;clear I a O;intro A12 w O;intro a I;refine⟨.inr fun _=>(by exact⟨[_,_,_,_],O⟩),?_⟩;refine aD 5 (by kernel_rfl) ?_;refine eF I rfl rfl nz rfl (lP _ _ _ q (by exact O.rd) (hq.sat O) hlq) ?_;clear I a;rintro e w ⟨t2,ls2,rfl,hT2,hT⟩;replace O:Sat _ _ (_::_::_):=O.ag hT;clear hT;refine⟨_,rfl,?_⟩;intro a I;refine⟨.inl rfl,?_⟩;refine rX [6,7] I ?_;clear I a;intro a I;refine ah (by kernel_rfl) ?_ _;replace I:=I.kp [4,5,6] rfl
    first
     | exact⟨t1,t2,ls1,ls2,I,((((O.p 1).p 1).p 4).p 4).cW [_,_,_,_],(by exact hT1),(by exact hT2)⟩
   ·refine vB (vss:=[[_,_]]) I rfl rfl rfl fJ pP rfl rfl rfl (by simp) rfl O ?_;clear I a O;intro A12 w O;intro a I;refine⟨.inr fun _=>(by exact⟨[_,_],O⟩),?_⟩;refine aD 2 (by kernel_rfl) ?_;refine eF I rfl rfl nz rfl (lP _ _ _ p (by exact (O.p 1).rd) (hp.sat O) hlp) ?_;clear I a;rintro e w ⟨t1,ls1,rfl,hT1,hT⟩;replace O:Sat _ _ (_::_::_):=O.ag hT;clear hT;refine⟨_,rfl,?_⟩;intro a I;refine⟨.inr fun _=>(by exact⟨[_,_,_,_],O⟩),?_⟩;refine aD 5 (by kernel_rfl) ?_;refine eF I rfl rfl nz rfl (lP _ _ _ q (by exact (O.p 2).rd) (hq.sat O) hlq) ?_;clear I a;rintro e w ⟨t2,ls2,rfl,hT2,hT⟩;replace O:Sat _ _ (_::_::_):=O.ag hT;clear hT;refine⟨_,rfl,?_⟩;intro a I;refine⟨.inl rfl,?_⟩;refine rX [6,7] I ?_;clear I a;intro a I;refine ah (by kernel_rfl) ?_ _;replace I:=I.kp [4,5,6] rfl
    first
     | exact⟨t1,t2,ls1,ls2,I,((((O.p 1).p 1).p 3).p 3).cW [_,_,_,_],(by exact hT1),(by exact hT2)⟩
  ·refine vB (vss:=[[_,_]]) I rfl rfl rfl fJ pP rfl rfl rfl (by simp) rfl O ?_;clear I a O;intro A12 w O;intro a I;refine⟨.inr fun _=>(by exact⟨[_],O⟩),?_⟩;refine aD 1 (by kernel_rfl) ?_;refine vB (vss:=[[_,_]]) I rfl rfl rfl fJ pP rfl rfl rfl (by simp) rfl O ?_;clear I a O;intro A9 w O;intro a I;refine⟨.inr fun _=>(by exact⟨[_,_],O⟩),?_⟩;refine aD 2 (by kernel_rfl) ?_;refine eF I rfl rfl nz rfl (lP _ _ _ p (by exact O.rd) (hp.sat O) hlp) ?_;clear I a;rintro e w ⟨t1,ls1,rfl,hT1,hT⟩;replace O:Sat _ _ (_::_::_):=O.ag hT;clear hT;refine⟨_,rfl,?_⟩;intro a I;refine⟨.inr fun _=>(by exact⟨[_,_,_,_],O⟩),?_⟩;refine aD 5 (by kernel_rfl) ?_;refine eF I rfl rfl nz rfl (lP _ _ _ q (by exact (O.p 3).rd) (hq.sat O) hlq) ?_;clear I a;rintro e w ⟨t2,ls2,rfl,hT2,hT⟩;replace O:Sat _ _ (_::_::_):=O.ag hT;clear hT;refine⟨_,rfl,?_⟩
   intro a I;refine⟨.inl rfl,?_⟩;refine rX [6,7] I ?_;clear I a;intro a I;refine ah (by kernel_rfl) ?_ _;replace I:=I.kp [4,5,6] rfl
   first
    | exact⟨t1,t2,ls1,ls2,I,((((O.p 1).p 1).p 3).p 3).cW [_,_,_,_],(by exact hT1),(by exact hT2)⟩
 ·intro a w hI;clear O I;obtain⟨t1,t2,ls1,ls2,I,O,hT1,hT2⟩:=hI;refine rC 7 I ?_;clear I a;intro a I;refine wp_loop_ghost (fun (mm:Nat) a w=>∃(r:Nat),Ag a 39 [(5,.pointer (some ⟨t1,0,none⟩)),(6,.pointer (some ⟨t2,0,none⟩)),(14,.int .i64 ((r:Nat):Int))]∧Sat W w ([jV 355 t1 ls1,br (ls1.map (Loc.iZ 357)),jV 355 t2 ls2,br (ls2.map (Loc.iZ 357))])∧(r≤16)∧(∀k,k<r→en (ar (cN p.d k)) (ar (cN q.d k))=[])∧mm=16-r) 16 ?_ ?_
  ·replace I:=I.kp [5,6,14] rfl;exact⟨0,I,O,(by omega),(by exact fun k hk=>absurd hk (Nat.not_lt_zero k)),by omega⟩
  intro m a w hI;clear O I;obtain⟨r,I,O,hr,hw,rfl⟩:=hI;refine rC 2 I ?_;clear I a;refine aK 0 0 (aq rfl rfl) ?_ ?_
  ·intro h15;obtain⟨lA,lc,hl1⟩:=hT1.get (show r<16 by omega);obtain⟨mA,mc,hl2⟩:=hT2.get (show r<16 by omega);have hrl:=sj hlp r (by omega);have hrm:=sj hlq r (by omega);refine uO 15 ?_;intro a I;refine bj [18] O (by kernel_rfl) ?_;replace O:=O.drew;refine rX [0,1] I ?_;clear I a;refine bx 2 [] rfl (fun w=>(aZ rfl)) ?_;refine bx 3 [] rfl (fun w=>(iA rfl rfl lL iL)) ?_;refine cP 4 [] rfl (by exact⟨[],O⟩) (fun w hT=>have O:=hT.sat;(aj rfl kN (gL O hl1))) ?_;refine bx 5 [] rfl (fun w=>(ak rfl bR)) ?_;intro a I;refine K.GX 6 I pk rfl rfl rfl rfl (by kernel_rfl) (by kernel_rfl) (by kernel_rfl) (fun w=>(dx (I.ev rfl) (I.ev rfl))) ?_ ?_
   ·clear I a;intro h23;intro a I;dsimp only at h23;refine rX [7,8,9] I ?_;clear I a;refine bx 10 [] rfl (fun w=>(aZ rfl)) ?_;refine bx 11 [] rfl (fun w=>(iA rfl rfl lL iL)) ?_;refine cP 12 [13,14] rfl (by exact⟨[],O⟩) (fun w hT=>have O:=hT.sat;(aj rfl kN (gL O hl1))) ?_;refine bx 15 [] rfl (fun w=>(aZ rfl)) ?_;refine bx 16 [] rfl (fun w=>(iA rfl rfl lL iL)) ?_;refine cP 17 [] rfl (by exact⟨[],O⟩) (fun w hT=>have O:=hT.sat;(aj rfl kN (gL (O.p 2) hl2))) ?_;intro a I;refine aD 18 (by kernel_rfl) ?_;refine Ft I rfl (aL I rfl rfl rfl) rfl Jm rfl (x8 _ lA lc (cN p.d r) mA mc (cN q.d r) (rB (O.p 1) hl1) (rB (O.p 3) hl2) hrl hrm) ?_;clear I a;rintro e w ⟨rfl,hT⟩;replace O:Sat _ _ _:=O.ag hT;clear hT;refine⟨_,rfl,?_⟩;intro a I;refine⟨.inl rfl,?_⟩
    refine K.Dt 19 I pk rfl (aL I rfl rfl rfl) rfl rfl (by kernel_rfl) (by kernel_rfl) (by kernel_rfl) (fun w=>(aI (I.ev rfl))) ?_ ?_
    ·clear I a;intro h36;intro a I;simp only[decide_eq_decide,decide_eq_true_eq,decide_eq_false_iff_not,Bool.not_eq_true',Bool.not_eq_false',bne_iff_ne,ne_eq,beq_iff_eq,Bool.not_eq_true,Bool.not_eq_false]at h36;refine rX [20] I ?_;clear I a;intro a I;refine ah (by kernel_rfl) ?_ _;refine rE 13 I ?_;clear I a;refine aS ?_;exact⟨by rw[Dp (by omega) h36],O.nil⟩
    ·clear I a;intro h36;intro a I;simp only[decide_eq_decide,decide_eq_true_eq,decide_eq_false_iff_not,Bool.not_eq_true',Bool.not_eq_false',bne_iff_ne,ne_eq,beq_iff_eq,Bool.not_eq_true,Bool.not_eq_false]at h36;refine rX [20] I ?_;clear I a;intro a I;refine ah (by kernel_rfl) ?_ _;refine rE 6 I ?_;clear I a;refine u1 2 (ad rfl rfl) ?_;intro a I;replace I:=I.kp [5,6,14] rfl;refine⟨16-(r+1),by omega,r+1,I,O,by omega,fun k hk=>?_,rfl⟩;rcases Nat.lt_or_ge k r with hkr | hkr
     ·exact hw k hkr
     ·obtain rfl:k=r:=by omega
      exact h36
   ·clear I a;intro h23;intro a I;dsimp only at h23;refine rX [7,8,9,10,11,12,13,14,15,16,17,18,19,20] I ?_;clear I a;intro a I;refine ah (by kernel_rfl) ?_ _;refine rE 6 I ?_;clear I a;refine u1 2 (ad rfl rfl) ?_;intro a I;replace I:=I.kp [5,6,14] rfl;refine⟨16-(r+1),by omega,r+1,I,O,by omega,fun k hk=>?_,rfl⟩;rcases Nat.lt_or_ge k r with hkr | hkr
    ·exact hw k hkr
    ·obtain rfl:k=r:=by omega
     exact yA _ (by omega)
  ·intro h15;refine uO 15 ?_;refine aS ?_;exact⟨by rw[Bj fun k hk=>hw k (by omega)],O.nil⟩
theorem Bp (W:World)(p q:PL)(hp:p.ok W)(hq:q.ok W)(hlp:p.d.ab.length≤10000000000)(hlq:q.d.ab.length≤10000000000):Calls Tryz.prog 390 #[.agg #[.slice p.va p.d.vec.length p.vc,.slice p.ca p.d.ab.length p.cc],.agg #[.slice q.va q.d.vec.length q.vc,.slice q.ca q.d.ab.length q.cc],.func (.func 388) #[] #[]] W fun e w'=>∃z:PL,e=.returned (.agg #[.slice z.va z.d.vec.length z.vc,.slice z.ca z.d.ab.length z.cc])∧z.d=jQ p.d q.d∧Sat W w' [cM 3 z.va z.vc z.d.vec,bH 219 z.ca z.cc z.d.ab]:=by
 refine bP Tryz.func390 [0,1,2] ?_;have O:=Sat.start W;refine uC 2 ?_;refine uB rfl O ?_;clear O;intro b3 w O;refine uB rfl O ?_;clear O;intro b4 w O;refine uN dK O ?_;clear O;intro b6 w O;refine uO 2 ?_;intro a I;replace I:=I.kp [2,3,4,6] rfl;refine cZ (fun a w=>∃(t1 t2:Nat) (ls1 ls2:List (Loc bq)),Ag a 38 [(2,.func (.func 388) #[] #[]),(6,.pointer (some ⟨b6,0,none⟩)),(7,.pointer (some ⟨t1,0,none⟩)),(8,.pointer (some ⟨t2,0,none⟩))]∧Sat W w ([jV 355 t1 ls1,br (ls1.map (Loc.iZ 357)),jV 355 t2 ls2,br (ls2.map (Loc.iZ 357)),a6 b6 (.cells #[.slice none 0 0,.slice none 0 0] 63)])∧(gQ ls1 (cN p.d))∧(gQ ls2 (cN q.d))) ?_ ?_
 ·refine bj [5] O (by kernel_rfl) ?_;replace O:=O.drew;refine X1 0 [] I rfl (by exact⟨[],O⟩) (fun w hT=>have O:=hT.sat;(ax (cs:=[_,_]) (I.ev rfl) fu bo (by exact (O.p 2).aF (xs:=[_,_]) rfl))) ?_;clear I a;refine cP 3 [] rfl (by exact⟨[],O⟩) (fun w hT=>have O:=hT.sat;(lS (cs:=[_,_]) rfl)) ?_;intro a I;refine nr 1 4 (by kernel_rfl) ?_ ?_
  ·refine vB (vss:=[[_,_]]) I rfl rfl rfl fJ pP rfl rfl rfl (by simp) rfl O ?_;clear I a O;intro A11 w O;intro a I;refine⟨.inr fun _=>(by exact⟨[_],O⟩),?_⟩;refine nr 2 4 (by kernel_rfl) ?_ ?_
   ·refine eF I rfl rfl nz rfl (lP _ _ _ p (by exact O.rd) (hp.sat O) hlp) ?_;clear I a;rintro e w ⟨t1,ls1,rfl,hT1,hT⟩;replace O:Sat _ _ (_::_::_):=O.ag hT;clear hT;refine⟨_,rfl,?_⟩;intro a I;refine⟨.inr fun _=>(by exact⟨[_,_,_],O⟩),?_⟩;refine aD 4 (by kernel_rfl) ?_;refine vB (vss:=[[_,_]]) I rfl rfl rfl fJ pP rfl rfl rfl (by simp) rfl O ?_;clear I a O;intro A14 w O;intro a I;refine⟨.inr fun _=>(by exact⟨[_,_,_,_],O⟩),?_⟩;refine aD 5 (by kernel_rfl) ?_;refine eF I rfl rfl nz rfl (lP _ _ _ q (by exact O.rd) (hq.sat O) hlq) ?_;clear I a;rintro e w ⟨t2,ls2,rfl,hT2,hT⟩;replace O:Sat _ _ (_::_::_):=O.ag hT;clear hT;refine⟨_,rfl,?_⟩;intro a I;refine⟨.inl rfl,?_⟩;refine rX [6,7] I ?_;clear I a;intro a I;refine ah (by kernel_rfl) ?_ _;replace I:=I.kp [2,6,7,8] rfl
    first
     | exact⟨t1,t2,ls1,ls2,I,(((((O.p 6).p 2).p 2).p 5).p 5).cW [_,_,_,_,_],(by exact hT1),(by exact hT2)⟩
   ·refine vB (vss:=[[_,_]]) I rfl rfl rfl fJ pP rfl rfl rfl (by simp) rfl O ?_;clear I a O;intro A14 w O;intro a I;refine⟨.inr fun _=>(by exact⟨[_,_],O⟩),?_⟩;refine aD 2 (by kernel_rfl) ?_;refine eF I rfl rfl nz rfl (lP _ _ _ p (by exact (O.p 1).rd) (hp.sat O) hlp) ?_;clear I a;rintro e w ⟨t1,ls1,rfl,hT1,hT⟩;replace O:Sat _ _ (_::_::_):=O.ag hT;clear hT;refine⟨_,rfl,?_⟩;intro a I;refine⟨.inr fun _=>(by exact⟨[_,_,_,_],O⟩),?_⟩;refine aD 5 (by kernel_rfl) ?_;refine eF I rfl rfl nz rfl (lP _ _ _ q (by exact (O.p 2).rd) (hq.sat O) hlq) ?_;clear I a;rintro e w ⟨t2,ls2,rfl,hT2,hT⟩;replace O:Sat _ _ (_::_::_):=O.ag hT;clear hT;refine⟨_,rfl,?_⟩;intro a I;refine⟨.inl rfl,?_⟩;refine rX [6,7] I ?_;clear I a;intro a I;refine ah (by kernel_rfl) ?_ _;replace I:=I.kp [2,6,7,8] rfl
    first
     | exact⟨t1,t2,ls1,ls2,I,(((((O.p 6).p 2).p 2).p 4).p 4).cW [_,_,_,_,_],(by exact hT1),(by exact hT2)⟩
  ·refine vB (vss:=[[_,_]]) I rfl rfl rfl fJ pP rfl rfl rfl (by simp) rfl O ?_;clear I a O;intro A14 w O;intro a I;refine⟨.inr fun _=>(by exact⟨[_],O⟩),?_⟩;refine aD 1 (by kernel_rfl) ?_;refine vB (vss:=[[_,_]]) I rfl rfl rfl fJ pP rfl rfl rfl (by simp) rfl O ?_;clear I a O;intro A11 w O;intro a I;refine⟨.inr fun _=>(by exact⟨[_,_],O⟩),?_⟩;refine aD 2 (by kernel_rfl) ?_;refine eF I rfl rfl nz rfl (lP _ _ _ p (by exact O.rd) (hp.sat O) hlp) ?_;clear I a;rintro e w ⟨t1,ls1,rfl,hT1,hT⟩;replace O:Sat _ _ (_::_::_):=O.ag hT;clear hT;refine⟨_,rfl,?_⟩;intro a I;refine⟨.inr fun _=>(by exact⟨[_,_,_,_],O⟩),?_⟩;refine aD 5 (by kernel_rfl) ?_;refine eF I rfl rfl nz rfl (lP _ _ _ q (by exact (O.p 3).rd) (hq.sat O) hlq) ?_;clear I a;rintro e w ⟨t2,ls2,rfl,hT2,hT⟩;replace O:Sat _ _ (_::_::_):=O.ag hT;clear hT;refine⟨_,rfl,?_⟩
   intro a I;refine⟨.inl rfl,?_⟩;refine rX [6,7] I ?_;clear I a;intro a I;refine ah (by kernel_rfl) ?_ _;replace I:=I.kp [2,6,7,8] rfl
   first
    | exact⟨t1,t2,ls1,ls2,I,(((((O.p 6).p 2).p 2).p 4).p 4).cW [_,_,_,_,_],(by exact hT1),(by exact hT2)⟩
 ·intro a w hI;clear O I;obtain⟨t1,t2,ls1,ls2,I,O,hT1,hT2⟩:=hI;refine rC 7 I ?_;clear I a;intro a I;refine wp_loop_ghost (fun (mm:Nat) a w=>∃(r:Nat) (ls1:List (Loc bq)),Ag a 38 [(2,.func (.func 388) #[] #[]),(6,.pointer (some ⟨b6,0,none⟩)),(7,.pointer (some ⟨t1,0,none⟩)),(8,.pointer (some ⟨t2,0,none⟩)),(16,.int .i64 ((r:Nat):Int))]∧Sat W w ([jV 355 t1 ls1,br (ls1.map (Loc.iZ 357)),jV 355 t2 ls2,br (ls2.map (Loc.iZ 357)),a6 b6 (.cells #[.slice none 0 0,.slice none 0 0] 63)])∧(r≤16)∧(gQ ls1 (oB p.d q.d r))∧mm=16-r) 16 ?_ ?_
  ·replace I:=I.kp [2,6,7,8,16] rfl;exact⟨0,ls1,I,O,(by omega),(by exact hT1.congr fun k _=>rfl),by omega⟩
  intro m a w hI;clear O I;obtain⟨r,ls1,I,O,hr,hT1,rfl⟩:=hI;refine rC 2 I ?_;clear I a;refine aK 0 0 (aq rfl rfl) ?_ ?_
  ·intro h17;obtain⟨lA,lc,hl1⟩:=hT1.get (show r<16 by omega);obtain⟨mA,mc,hl2⟩:=hT2.get (show r<16 by omega);have hrl:=sj hlp r (by omega);have hrm:=sj hlq r (by omega);intro a I;rw[DW]at hl1;refine rO 14 I ?_;clear I a;intro a I;refine bj [13,16] O (by kernel_rfl) ?_;replace O:=O.drew;refine rX [0,1,2,3,4] I ?_;clear I a;refine bx 5 [] rfl (fun w=>(aZ rfl)) ?_;refine bx 6 [] rfl (fun w=>(iA rfl rfl lL iL)) ?_;refine cP 7 [8,9] rfl (by exact⟨[],O⟩) (fun w hT=>have O:=hT.sat;(aj rfl kN (gL O hl1))) ?_;refine bx 10 [] rfl (fun w=>(aZ rfl)) ?_;refine bx 11 [] rfl (fun w=>(iA rfl rfl lL iL)) ?_;refine cP 12 [] rfl (by exact⟨[],O⟩) (fun w hT=>have O:=hT.sat;(aj rfl kN (gL (O.p 2) hl2))) ?_;refine bx 14 [] rfl (fun w=>(aZ rfl)) ?_;intro a I;refine aD 13 (by kernel_rfl) ?_
   refine eV I rfl rfl IQ rfl rfl (sx _ lA lc (cN p.d r) mA mc (cN q.d r) (rB (O.p 1) hl1) (rB (O.p 3) hl2) hrl hrm) ?_;clear I a;rintro e w ⟨A32,c32,rfl,hT⟩;replace O:=O.au hT;clear hT;refine⟨_,rfl,?_⟩;intro a I;refine⟨.inl rfl,?_⟩;refine P1 15 [] I rfl (fun w=>(fI (I.ev rfl) (I.ev rfl) lL iL (by omega) (by omega))) ?_;clear I a;intro a I;refine aD 16 (by kernel_rfl) ?_;refine eT (i:=r) ⟨A32,c32,en (aO p.d r) (aO q.d r)⟩ I rfl rfl (by simp) rfl rfl kN iL (O.p 1) hl1 ?_;clear O;intro w O;refine⟨.inl rfl,?_⟩;refine ah (by kernel_rfl) ?_ _;refine rE 3 I ?_;clear I a;refine u1 2 (ad rfl rfl) ?_;intro a I;replace I:=I.kp [2,6,7,8,16] rfl;have hS2:=((O.p 2).dO (qE hl1)).drop;have hS3:=s9 hl1 (l':=⟨A32,c32,en (aO p.d r) (aO q.d r)⟩) (((hS2.p 1).p 1).p 2)
   refine⟨16-(r+1),by omega,r+1,_,I,(((((hS3.p 4).p 4).p 4).p 3).p 4).cW [_,_,_,_,_],by omega,?_,rfl⟩;exact hT1.set (Dl _ _ _).symm fun k hk hne=>CW hne
  ·intro h17;obtain rfl:r=16:=by omega
   refine uO 12 ?_;refine uF rfl (lO _ _ _ t1 ls1 (oB p.d q.d 16) O hT1 (E8 hlp hlq)) ?_;rintro e w ⟨z,rfl,hz,hT⟩;replace O:Sat _ _ (_::_::_):=O.ag hT;clear hT;refine uW (vs:=[_,_]) (cs':=[_,_]) rfl rfl bo (O.p 6) ?_;clear O;intro w O;refine uO 3 ?_;intro a I;refine gN I rfl (de (cs:=[_,_]) I rfl fu bo (by exact O.aF (xs:=[_,_]) rfl)) ?_;exact⟨z,rfl,by rw[hz,z1],oW ((O.p 2).p 2)⟩
theorem qm (W:World)(p q:PL)(hp:p.ok W)(hq:q.ok W)(hlp:p.d.ab.length≤10000000000)(hlq:q.d.ab.length≤10000000000):Calls Tryz.prog 375 #[.agg #[.slice p.va p.d.vec.length p.vc,.slice p.ca p.d.ab.length p.cc],.agg #[.slice q.va q.d.vec.length q.vc,.slice q.ca q.d.ab.length q.cc]] W fun e w'=>∃z:PL,e=.returned (.agg #[.slice z.va z.d.vec.length z.vc,.slice z.ca z.d.ab.length z.cc])∧z.d=jQ p.d q.d∧Sat W w' [cM 3 z.va z.vc z.d.vec,bH 219 z.ca z.cc z.d.ab]:=by
 refine bP Tryz.func375 [0,1] ?_;have O:=Sat.start W;refine uC 2 ?_;refine uB rfl O ?_;clear O;intro b2 w O;refine uB rfl O ?_;clear O;intro b3 w O;refine uN dK O ?_;clear O;intro b4 w O;refine uO 4 ?_;refine u1 0 (lS (cs:=[_,_]) rfl) ?_;refine u1 0 (lS (cs:=[_,_]) rfl) ?_;refine uF rfl (Bp _ p q (hp.sat O) (hq.sat O) hlp hlq) ?_;rintro e w ⟨z,rfl,hz,hT⟩;replace O:Sat _ _ (_::_::_):=O.ag hT;clear hT;refine uW (vs:=[_,_]) (cs':=[_,_]) rfl rfl bo (O.p 2) ?_;clear O;intro w O;refine uO 3 ?_;intro a I;refine gN I rfl (de (cs:=[_,_]) I rfl fu bo (by exact O.aF (xs:=[_,_]) rfl)) ?_;exact⟨z,rfl,hz,oW ((O.p 2).p 2)⟩
theorem DY (W:World)(A:Option Addr)(c:Nat)(xs:List fZ)(hR:Gl W A c xs)(hl:xs.length≤10000000000):Calls Tryz.prog 276 #[.slice A (xs).length c] W fun e w'=>∃q:PL,e=.returned (.agg #[.slice q.va q.d.vec.length q.vc,.slice q.ca q.d.ab.length q.cc])∧q.d=l9 xs∧Sat W w' [cM 3 q.va q.vc q.d.vec,bH 219 q.ca q.cc q.d.ab]:=by
 refine bP Tryz.func276 [0] ?_;have O:=Sat.start W;refine uC 2 ?_;refine uN dK O ?_;clear O;intro b2 w O;refine uO 4 ?_;intro a I;refine o1 0 I (aM I rfl Fa) ?_;clear I a;refine uB rfl O ?_;clear O;intro b7 w O;refine uO 7 ?_;refine u1 4 (ak rfl nZ) ?_;intro a I;refine wp_loop_ghost (fun (mm:Nat) a w=>∃(i:Nat) (ls:List (Loc bq)),Ag a 37 [(2,.pointer (some ⟨b2,0,none⟩)),(3,.pointer (some ⟨b7,0,none⟩)),(8,.slice A (xs).length c),(9,.int .i64 ((xs.length:Nat):Int)),(10,.int .i64 ((i:Nat):Int))]∧Sat W w ([jV 355 b7 ls,br (ls.map (Loc.iZ 357)),a6 b2 (.cells #[.slice none 0 0,.slice none 0 0] 63)])∧(i≤xs.length)∧(gQ ls (kP (xs.take i)))∧mm=xs.length-i) xs.length ?_ ?_
 ·replace I:=I.kp [2,3,8,9,10] rfl;have hS1:Sat W w [jV 355 b7 (List.replicate 16 wP),br ((List.replicate 16 wP).map (Loc.iZ 357)),a6 b2 (.cells #[.slice none 0 0,.slice none 0 0] 63)]:=(r6 357 O 16).p 1;exact⟨0,_,I,hS1,(by omega),(by exact sv.congr fun r _=>rfl),by omega⟩
 intro m a w hI;clear O I;obtain⟨i,ls,I,O,hi,hT,rfl⟩:=hI;refine rC 2 I ?_;clear I a;refine aK 0 0 (aq rfl rfl) ?_ ?_
 ·intro h11;refine uO 10 ?_;obtain⟨A_p,rfl⟩:∃q,A=some q:=(hR.sat O).ao (by omega);obtain⟨d,hx⟩:∃zz_,xs[i]?=some zz_:=⟨_,List.getElem?_eq_getElem (by omega)⟩;refine u1 0 (ix rfl rfl nZ gW) ?_;refine u1 0 (ax (cs:=pZ d) rfl om gW (fun j u e=>bI (hR.sat O) (s8 hx j u e))) ?_;refine uN Bw O ?_;clear O;intro b5 w O;refine uW (vs:=[_,_]) (cs':=[_,_]) rfl rfl gW O ?_;clear O;intro w O;refine uO 4 ?_;refine u1 0 (lS (cs:=[_,_]) rfl) ?_;refine uF rfl (sK _ d.rep d.num) ?_;rintro e w ⟨rfl,hT9⟩;replace O:Sat _ _ _:=O.ag hT9;clear hT9;generalize h15:dG d.rep d.num=bb;cases bb
  ·refine uO 7 ?_;refine u1 2 (ad rfl rfl) ?_;intro a I;replace I:=I.kp [2,3,8,9,10] rfl;refine⟨xs.length-(i+1),by omega,i+1,ls,I,O.drop,by omega,?_,rfl⟩;exact hT.congr fun k hk=>by rw[nT hx,if_neg (by rw[h15];simp),List.append_nil]
  ·have hdot:=h15;unfold dG at hdot;simp only[Bool.and_eq_true,decide_eq_true_eq]at hdot;obtain⟨lA,lc,hl'⟩:=hT.get (show d.rep.toNat<16 by omega);have hlen:=tQ (xs.take i) d.rep.toNat;rw[List.length_take]at hlen;replace O:Sat W w (eR 357 lA lc (kP (xs.take i) d.rep.toNat)::_):=(O.p 2).dO (qE hl');refine uO 3 ?_;intro a I;refine ja [18] (lq W [br ((ls.map (Loc.iZ 357)).eraseIdx d.rep.toNat),a6 b5 (.cells #[.int .i64 d.rep,.int .i64 d.num] 214),jV 355 b7 ls,a6 b2 (.cells #[.slice none 0 0,.slice none 0 0] 63)]) (by kernel_rfl) ?_;replace O:=O.drew;refine rX [0] I ?_;clear I a
   refine bx 1 [] rfl (fun w=>(aa rfl bu)) ?_;refine cP 2 [3] rfl (by exact⟨[_],O⟩) (fun w hT=>have O:=hT.sat;(ld rfl)) ?_;refine bx 4 [] rfl (fun w=>(aa rfl bu)) ?_;refine cP 5 [] rfl (by exact⟨[_],O⟩) (fun w hT=>have O:=hT.sat;(ld rfl)) ?_;refine bx 6 [] rfl (fun w=>(aZ rfl)) ?_;refine bx 7 [] rfl (fun w=>(iA rfl rfl lL iL)) ?_;refine cP 8 [] rfl (by exact⟨[_],O⟩) (fun w hT=>have O:=hT.sat;(aj rfl kN (gL (O.p 2) hl'))) ?_;refine bx 9 [] rfl (fun w=>(aa rfl bN)) ?_;refine cP 10 [] rfl (by exact⟨[_],O⟩) (fun w hT=>have O:=hT.sat;(ld rfl)) ?_;refine bx 11 [] rfl (fun w=>(aa rfl bN)) ?_;refine cP 12 [] rfl (by exact⟨[_],O⟩) (fun w hT=>have O:=hT.sat;(ld rfl)) ?_;intro a I;refine P1 13 [] I rfl (fun w=>(aM I rfl kC)) ?_;clear I a;refine bx 16 [] rfl (fun w=>(aZ rfl)) ?_
   intro a I;refine aD 14 (by kernel_rfl) ?_;refine vB (vss:=[[_,_]]) I rfl rfl rfl bR iB rfl rfl rfl (by simp) rfl O ?_;clear I a O;intro A30 w O;intro a I;refine⟨.inr fun _=>(by exact⟨[_,_],O⟩),?_⟩;refine aD 15 (by kernel_rfl) ?_;refine eA I rfl rfl rfl rfl bR iB rfl (O.p 1) (O.rd.src bR (by simp[Value.oneCell'])) (by omega) (by omega) ?_;clear I a O;intro A31 c31 w hc31 O;intro a I;refine⟨.inr fun _=>(by exact⟨[_,_],O⟩),?_⟩;refine P1 17 [] I rfl (fun w=>(fI (I.ev rfl) (I.ev rfl) lL iL (by omega) (by omega))) ?_;clear I a;intro a I;refine aD 18 (by kernel_rfl) ?_;refine eT (i:=d.rep.toNat) ⟨A31,c31,kP (xs.take i) d.rep.toNat++[(d.num,d.num)]⟩ I rfl rfl (by simp) rfl (by simp[Loc.v]) kN iL (O.p 4) hl' ?_;clear O;intro w O;refine⟨.inl rfl,?_⟩;refine ah (by kernel_rfl) ?_ _
   refine rE 3 I ?_;clear I a;refine u1 2 (ad rfl rfl) ?_;intro a I;replace I:=I.kp [2,3,8,9,10] rfl;have hS2:=s9 hl' (l':=⟨A31,c31,kP (xs.take i) d.rep.toNat++[(d.num,d.num)]⟩) (fW ((O.p 3).p 2) (by simp) (by simp[gS]));refine⟨xs.length-(i+1),by omega,i+1,_,I,(((hS2.p 4).p 1).p 2).cW [_,_,_],by omega,?_,rfl⟩;refine hT.set ?_ fun k hk hne=>?_
   ·rw[nT hx,if_pos ⟨h15,by omega⟩]
   ·rw[nT hx,if_neg (fun hh=>hne (by have:=hh.2;omega)),List.append_nil]
 ·intro h11;obtain rfl:i=xs.length:=by omega
  intro a I;rw[List.take_length]at hT;refine rO 12 I ?_;clear I a;refine uF rfl (lO _ _ _ b7 ls (kP xs) O hT (fun r _=>Nat.le_trans (tQ xs r) (by omega))) ?_;rintro e w ⟨q,rfl,hq,hT9⟩;replace O:Sat _ _ (_::_::_):=O.ag hT9;clear hT9;refine uW (vs:=[_,_]) (cs':=[_,_]) rfl rfl bo (O.p 4) ?_;clear O;intro w O;refine uO 3 ?_;intro a I;refine gN I rfl (de (cs:=[_,_]) I rfl fu bo (by exact O.aF (xs:=[_,_]) rfl)) ?_;exact⟨q,rfl,by rw[hq,CG],oW ((O.p 2).p 2)⟩
def ej:List Int→List Int→List Int
 | [],m=>m
 | a::l,[]=>a::ej l []
 | a::l,b::m=>if a≤b then a::ej l (b::m) else b::ej (a::l) m
termination_by l m=>l.length+m.length
theorem ic:∀(k:Nat) (l m:List Int),l.length+m.length≤k→(ej l m).Perm (l++m)
 | _,[],m,_=>by rw[ej];exact .refl _
 | k, a :: l, [], h => by
   cases k with
   | zero=>simp at h
   | succ k=>rw[ej];exact (ic k l [] (by simp at h ⊢;omega)).cons a
 | 0,a::l,b::m,h=>by simp at h
 | k + 1, a :: l, b :: m, h => by
   simp only[List.length_cons]at h;rw[ej]
   split
   ·
    exact (ic k l (b::m) (by simp only[List.length_cons];omega)).cons a
   ·
    exact ((ic k (a::l) m (by simp only[List.length_cons];omega)).cons b).trans (List.perm_middle (l₁:=a::l) (a:=b) (l₂:=m)).symm
theorem oI:∀(k:Nat) (l m:List Int),l.length+m.length≤k→zY l→zY m→zY (ej l m)
 | _,[],m,_,_,hm=>by rw[ej];exact hm
 | k, a :: l, [], h, hl, hm => by
   cases k with
   | zero=>simp at h
   | succ k =>
     rw[ej];refine⟨fun x hx=>?_,oI k l [] (by simp at h ⊢;omega) hl.2 trivial⟩;have:=(ic _ l [] (Nat.le_refl _)).mem_iff.1 hx;exact hl.1 x (by simpa using this)
 | 0,a::l,b::m,h,_,_=>by simp at h
 | k + 1, a :: l, b :: m, h, hl, hm => by
   simp only[List.length_cons]at h;rw[ej]
   split
   ·
    rename_i hab;refine⟨fun x hx=>?_,oI k l (b::m) (by simp only[List.length_cons];omega) hl.2 hm⟩;have:=(ic _ l (b::m) (Nat.le_refl _)).mem_iff.1 hx;rcases List.mem_append.1 this with h | h
    ·
     exact hl.1 x h
    ·
     rcases List.mem_cons.1 h with rfl | h
     ·
      exact hab
     ·
      have:=hm.1 x h;omega
   ·
    rename_i hab;refine⟨fun x hx=>?_,oI k (a::l) m (by simp only[List.length_cons];omega) hl hm.2⟩;have:=(ic _ (a::l) m (Nat.le_refl _)).mem_iff.1 hx;rcases List.mem_append.1 this with h | h
    ·
     rcases List.mem_cons.1 h with rfl | h
     ·
      omega
     ·
      have:=hl.1 x h;omega
    ·
     exact hm.1 x h
theorem IF {us vs:List Int}{i j:Nat}{u:Int}(hu:us[i]?=some u)(h:vs.length≤j∨∃v,vs[j]?=some v∧u≤v):ej (us.drop i) (vs.drop j)=u::ej (us.drop (i+1)) (vs.drop j):=by
 rw[aC hu];rcases h with h | ⟨v,hv,h⟩
 ·
  rw[List.drop_of_length_le h,ej]
 ·
  rw[aC hv,ej,if_pos h]
theorem Jq {us vs:List Int}{i j:Nat}{v:Int}(hv:vs[j]?=some v)(h:us.length≤i∨∃u,us[i]?=some u∧¬u≤v):ej (us.drop i) (vs.drop j)=v::ej (us.drop i) (vs.drop (j+1)):=by
 rw[aC hv];rcases h with h | ⟨u,hu,h⟩
 ·
  rw[List.drop_of_length_le h,ej,ej]
 ·
  rw[aC hu,ej,if_neg h]
theorem Hs {us vs:List Int}{i j:Nat}(hi:us.length≤i)(hj:vs.length≤j):ej (us.drop i) (vs.drop j)=[]:=by rw[List.drop_of_length_le hi,List.drop_of_length_le hj,ej]
structure HJ (us vs:List Int)(i j d:Nat):Prop where
 a1:zY (us.drop i)
 a2:zY (vs.drop j)
 fit:fits (us.drop i) (vs.drop j) d
 J1:d+us.length+j=vs.length+i
theorem GS {us vs:List Int}{i j d:Nat}{a b:Int}(h:HJ us vs i j d)(ha:us[i]?=some a)(hb:vs[j]?=some b)(hab:a≤b) :
 HJ us vs (i+1) j (d+1)∧fM (us.drop i) (vs.drop j) d=(if d=0 then [a] else [])++fM (us.drop (i+1)) (vs.drop j) (d+1):=by
 obtain⟨h1,h2,h3,h4⟩:=h;rw[aC ha]at h1 h3 ⊢;have h2':=h2;rw[aC hb]at h2' h3 ⊢;refine⟨⟨h1.2,h2,?_,by omega⟩,zb hab⟩;rw[aC hb];refine BO h3 (fun x hx=>?_) h1.1;rcases List.mem_cons.1 hx with rfl | hx
 ·
  exact hab
 ·
  have:=h2'.1 x hx;omega
theorem xi {us vs:List Int}{i j d:Nat}{b:Int}(h:HJ us vs i j d)(hb:vs[j]?=some b)(hab:us.length≤i∨∃a,us[i]?=some a∧¬a≤b) :
 1≤d∧HJ us vs i (j+1) (d-1)∧fM (us.drop i) (vs.drop j) d=(if d=1 then [b] else [])++fM (us.drop i) (vs.drop (j+1)) (d-1):=by
 obtain⟨h1,h2,h3,h4⟩:=h;rw[aC hb]at h2 h3 ⊢
 have hgt:∀x∈us.drop i,b<x:=by
  rcases hab with h | ⟨a,ha,h⟩
  ·
   rw[List.drop_of_length_le h];intro x hx;cases hx
  ·
   rw[aC ha]at h1 ⊢;intro x hx;rcases List.mem_cons.1 hx with rfl | hx
   ·
    omega
   ·
    have:=h1.1 x hx;omega
 obtain⟨hd,hf⟩:=uY h3 hgt h2.1;refine⟨hd,⟨h1,h2.2,hf,by omega⟩,?_⟩;rcases hab with h | ⟨a,ha,h⟩
 ·
  rw[List.drop_of_length_le h,tk]
 ·
  rw[aC ha,w8 h]
theorem DV {raw:List bq}{us vs:List Int}(hi:zY us)(ho:zY vs)(pi:us.Perm ((fj raw).map Prod.fst))(po:vs.Perm ((fj raw).map fun r=>r.2+1)):HJ us vs 0 0 0:=by
 have hc:=fun n=>tE (l:=fj raw) (fun r hr=>(nM r hr).2.1) n
 refine⟨hi,ho,fun n=>?_,by rw[pi.length_eq,po.length_eq];simp⟩;rw[List.drop_zero,List.drop_zero,my po,my pi];have:=(hc n).1;omega
def bZ (r:Int)(a b:Bool):Bool:=(decide (r=1) && a && b) || (decide (r=2) && a && !b)
def cA (i:Nat):Bool:=decide (i % 2=1)
theorem qK (i:Nat):cA (i+1)=!cA i:=by
 unfold cA
 by_cases h:i % 2=1
 ·
  rw[decide_eq_true h,decide_eq_false (by omega)];rfl
 ·
  rw[decide_eq_false h,decide_eq_true (by omega)];rfl
theorem JV {f:Bool→Bool→Bool}{us vs:List Int}{i j:Nat}{u:Int}{now:Bool}(hu:us[i]?=some u)(h:vs.length≤j∨∃v,vs[j]?=some v∧u<v):comb f (us.drop i) (vs.drop j) (cA i) (cA j) now=(if f (cA (i+1)) (cA j)=now then [] else [u])++comb f (us.drop (i+1)) (vs.drop j) (cA (i+1)) (cA j) (f (cA (i+1)) (cA j)):=by
 rw[aC hu,qK];rcases h with h | ⟨v,hv,h⟩
 ·
  rw[List.drop_of_length_le h,comb]
 ·
  rw[aC hv,comb,if_pos h]
theorem J6 {f:Bool→Bool→Bool}{us vs:List Int}{i j:Nat}{v:Int}{now:Bool}(hv:vs[j]?=some v)(h:us.length≤i∨∃u,us[i]?=some u∧v<u):comb f (us.drop i) (vs.drop j) (cA i) (cA j) now=(if f (cA i) (cA (j+1))=now then [] else [v])++comb f (us.drop i) (vs.drop (j+1)) (cA i) (cA (j+1)) (f (cA i) (cA (j+1))):=by
 rw[aC hv,qK];rcases h with h | ⟨u,hu,h⟩
 ·
  rw[List.drop_of_length_le h,comb]
 ·
  rw[aC hu,comb,if_neg (by omega),if_pos h]
theorem IG {f:Bool→Bool→Bool}{us vs:List Int}{i j:Nat}{u:Int}{now:Bool}(hu:us[i]?=some u)(hv:vs[j]?=some u):comb f (us.drop i) (vs.drop j) (cA i) (cA j) now=(if f (cA (i+1)) (cA (j+1))=now then [] else [u])++comb f (us.drop (i+1)) (vs.drop (j+1)) (cA (i+1)) (cA (j+1)) (f (cA (i+1)) (cA (j+1))):=by
 rw[aC hu,aC hv,qK,qK,comb,if_neg (by omega),if_neg (by omega)]
theorem Hh {f:Bool→Bool→Bool}{us vs:List Int}{i j:Nat}{x y now:Bool}(hi:us.length≤i)(hj:vs.length≤j):comb f (us.drop i) (vs.drop j) x y now=[]:=by rw[List.drop_of_length_le hi,List.drop_of_length_le hj,comb]
theorem E5 {W:World}{A:Option Addr}{n c sz:Nat}{cs:List Value}(h:Rd W sz (.slice A n c) n cs):n≤c:=by
 obtain⟨_,_,h1,h2⟩:=h.form
 injection h1 with _ _ h3
 omega
theorem E2 {w:World}{A:Option Addr}{n c m:Nat}{cs:List Value}(h:Rd w 1 (.slice A n c) n cs)(hm:m≤n):Rd w 1 (.slice (i6 A c 1 m) (n-m) (c-m)) (n-m) (cs.drop m):=by
 have:=Rd.Gq h m hm;rwa[Nat.mul_one]at this
theorem sr (W:World)(A:Option Addr)(n c:Nat)(xs:List Int)(hX:Rd W 1 (.slice A n c) n (xs.map (Value.int .i64)))(hl:n≤1000000000000)(ih:∀(W:World) (A:Option Addr) (m c:Nat) (xs:List Int),m<n→Rd W 1 (.slice A m c) m (xs.map (Value.int .i64))→Calls Tryz.prog 296 #[.slice A m c] W fun e w'=>∃A' c' ys,e=.returned (.slice A' ys.length c')∧ys.Perm xs∧zY ys∧Sat W w' [cM 3 A' c' ys]):Calls Tryz.prog 296 #[.slice A n c] W fun e w'=>∃A' c' ys,e=.returned (.slice A' ys.length c')∧ys.Perm xs∧zY ys∧Sat W w' [cM 3 A' c' ys]:=by
 refine bP Tryz.func296 [0] ?_;have O:=Sat.start W;have hnc:=E5 hX;have hxl:xs.length=n:=by have:=hX.len;simpa using this
 refine uC 9 ?_;refine u1 0 (ak rfl aA) ?_;refine aK 0 0 (aq rfl rfl) ?_ ?_
 ·intro h10;refine uO 5 ?_;intro a I;refine zq I rfl aA jN O ?_;clear I a O;intro A11 w O;refine uO 1 ?_;intro a I;refine dj I rfl rfl rfl aA jN rfl O ((hX.sat O).src aA (zf xs)) (by omega) (by omega) ?_;clear I a O;intro A13 c13 w hc13 O;refine uO 5 ?_;refine aS ?_
  have e1:zY xs:=by
   rcases xs with _ | ⟨a,_ | ⟨b,l⟩⟩
   ·
    exact trivial
   ·
    exact⟨fun x hx=>(by cases hx),trivial⟩
   ·
    simp at hxl;omega
  refine⟨_,_,xs,pM (by omega),.refl _,e1,fW (bY O) (by omega) (by simp)⟩
 ·intro h10;refine uO 9 ?_;refine u1 0 (ak rfl aA) ?_;refine u1 0 (gw rfl rfl (by omega) (by omega) (by omega)) ?_;refine u1 0 (aH (oF rfl rfl aA fO (by omega) (by omega)) (show _=Value.slice (i6 A c 1 0) (n / 2) c from rfl)) ?_;refine uF rfl (ih _ _ _ _ (xs.take (n / 2)) (by omega) (by rw[List.map_take];exact wm (hX.sat O) (by omega))) ?_;rintro e w ⟨A1,c1,us,rfl,hp1,ha1,hT⟩;have hl1:=hp1.length_eq;replace O:=O.au hT;clear hT;refine uO 7 ?_;refine u1 0 (ak rfl aA) ?_;refine u1 0 (gw rfl rfl (by omega) (by omega) (by omega)) ?_;refine u1 0 (aH (wM rfl rfl aA fO (by omega) (by omega)) (show _=Value.slice (i6 A c 1 (n / 2)) (n-n / 2) (c-n / 2) from rfl)) ?_;refine uF rfl (ih _ _ _ _ (xs.drop (n / 2)) (by omega) (by rw[List.map_drop];exact E2 (hX.sat O) (by omega))) ?_
  rintro e w ⟨A2,c2,vs,rfl,hp2,ha2,hT⟩;have hl2:=hp2.length_eq;replace O:=O.au hT;clear hT;intro a I;rw[List.length_take]at hl1;rw[List.length_drop]at hl2;refine rO 6 I ?_;clear I a;refine u1 0 (ak rfl aA) ?_;intro a I;refine JE (m:=0) I rfl rfl rfl aA jN rfl (by omega) (by omega) (by omega) O ?_;clear I a O;intro b28 w O;refine uO 3 ?_;intro a I;replace I:=I.kp [2,3,4,5] rfl;refine rC 8 I ?_;clear I a;intro a I
  refine wp_loop_ghost (fun (mm:Nat) a w=>∃(i j:Nat) (out:List Int) (Ao:Option Addr) (co:Nat),Ag a 79 [(3,.slice A1 (us).length c1),(4,.slice A2 (vs).length c2),(5,.slice Ao (out).length co),(6,.int .i64 ((i:Nat):Int)),(7,.int .i64 ((j:Nat):Int))]∧Sat W w ([cM 3 Ao co out,cM 3 A2 c2 vs,cM 3 A1 c1 us])∧(i≤us.length)∧(j≤vs.length)∧(out.length=i+j)∧(out++ej (us.drop i) (vs.drop j)=ej us vs)∧mm=us.length+vs.length-(i+j)) (us.length+vs.length) ?_ ?_
  ·replace I:=I.kp [3,4,5,6,7] rfl;exact⟨0,0,[],(some ⟨b28,0,none⟩),n,I,O,(by omega),(by omega),(by rfl),(by rfl),by omega⟩
  intro m a w hI;clear O I;obtain⟨i,j,out,Ao,co,I,O,hi,hj,hol,ho,rfl⟩:=hI;refine rC 5 I ?_;clear I a;refine u1 0 (ak rfl aA) ?_;refine aK 0 0 (aq rfl rfl) ?_ ?_
  ·intro h32;refine uO 13 ?_;intro a I;refine cD (fun w'=>Sat _ w' _) (by kernel_rfl) (by kernel_rfl) O.drew ?_;refine rQ 2 I ?_;clear I a;refine bc 0 (fun w O=>(ak rfl aA)) ?_;intro a I;refine K.rn I rfl rfl rfl (fun w O=>(aY (I.ev rfl) (I.ev rfl))) ?_ ?_
   ·clear I a;intro h42;refine uQ 17 ?_;intro a I;refine wpQuiet_nil ?_;clear O;intro w O;refine rE 7 I ?_;clear I a;obtain⟨A1_p,rfl⟩:∃q,A1=some q:=(O.p 2).rd.ao (by omega);obtain⟨u,hu⟩:∃zz_,us[i]?=some zz_:=⟨_,List.getElem?_eq_getElem (by omega)⟩;refine u1 0 (ix rfl rfl aA fO) ?_;refine u1 0 (aj rfl dE (eO (O.p 2).rd (aV hu))) ?_;intro a I;refine nF I rfl rfl aA jN rfl rfl rfl (by simp[Value.oneCell']) O ?_;clear I a O;intro A65 w O;intro a I;refine dj I rfl rfl rfl aA jN rfl (O.p 1) (O.rd.src aA (by simp[Value.oneCell'])) (by omega) (by omega) ?_;clear I a O;intro A66 c66 w hc66 O;refine uO 5 ?_;refine u1 3 (ad rfl rfl) ?_;intro a I;replace I:=I.kp [3,4,5,6,7] rfl;rw[IF hu (.inl (by omega)),List.append_cons]at ho;have el:out.length+1=(out++[u]).length:=by simp
    rw[el]at I;exact⟨us.length+vs.length-(i+1+j),by omega,i+1,j,out++[u],A66,c66,I,pw (fW (((O.p 3).p 3).p 2) el (by simp)),by omega,by omega,by simp;omega,ho,rfl⟩
   ·clear I a;intro h42;refine uQ 3 ?_;refine bc 0 (fun w O=>(ak rfl aA)) ?_;intro a I;refine K.lx I (aL I rfl rfl rfl) rfl rfl (fun w O=>(aq (I.ev rfl) (I.ev rfl))) ?_ ?_
    ·clear I a;intro h47;refine uQ 3 ?_;obtain⟨A1_p,rfl⟩:∃q,A1=some q:=(O.p 2).rd.ao (by omega);obtain⟨u,hu⟩:∃zz_,us[i]?=some zz_:=⟨_,List.getElem?_eq_getElem (by omega)⟩;refine bc 0 (fun w O=>(ix rfl rfl aA fO)) ?_;refine bc 2 (fun w O=>(aj rfl dE (eO (O.p 2).rd (aV hu)))) ?_;obtain⟨A2_p,rfl⟩:∃q,A2=some q:=(O.p 1).rd.ao (by omega);obtain⟨v,hv⟩:∃zz_,vs[j]?=some zz_:=⟨_,List.getElem?_eq_getElem (by omega)⟩;refine bc 0 (fun w O=>(ix rfl rfl aA fO)) ?_;refine bc 0 (fun w O=>(aj rfl dE (eO (O.p 1).rd (aV hv)))) ?_;intro a I;refine K.lx I (aL I rfl rfl rfl) rfl rfl (fun w O=>(dU (I.ev rfl) (I.ev rfl))) ?_ ?_
     ·clear I a;intro h57;refine uQ 2 ?_;intro a I;refine wpQuiet_nil ?_;clear O;intro w O;refine rE 7 I ?_;clear I a;refine u1 0 (ix rfl rfl aA fO) ?_;refine u1 0 (aj rfl dE (eO (O.p 2).rd (aV hu))) ?_;intro a I;refine nF I rfl rfl aA jN rfl rfl rfl (by simp[Value.oneCell']) O ?_;clear I a O;intro A65 w O;intro a I;refine dj I rfl rfl rfl aA jN rfl (O.p 1) (O.rd.src aA (by simp[Value.oneCell'])) (by omega) (by omega) ?_;clear I a O;intro A66 c66 w hc66 O;refine uO 5 ?_;refine u1 3 (ad rfl rfl) ?_;intro a I;replace I:=I.kp [3,4,5,6,7] rfl;rw[IF hu (.inr ⟨v,hv,h57⟩),List.append_cons]at ho;have el:out.length+1=(out++[u]).length:=by simp
      rw[el]at I;exact⟨us.length+vs.length-(i+1+j),by omega,i+1,j,out++[u],A66,c66,I,pw (fW (((O.p 3).p 3).p 2) el (by simp)),by omega,by omega,by simp;omega,ho,rfl⟩
     ·clear I a;intro h57;refine uQ 2 ?_;intro a I;refine wpQuiet_nil ?_;clear O;intro w O;refine rE 7 I ?_;clear I a;refine u1 0 (ix rfl rfl aA fO) ?_;refine u1 0 (aj rfl dE (eO (O.p 1).rd (aV hv))) ?_;intro a I;refine nF I rfl rfl aA jN rfl rfl rfl (by simp[Value.oneCell']) O ?_;clear I a O;intro A74 w O;intro a I;refine dj I rfl rfl rfl aA jN rfl (O.p 1) (O.rd.src aA (by simp[Value.oneCell'])) (by omega) (by omega) ?_;clear I a O;intro A75 c75 w hc75 O;refine uO 5 ?_;refine u1 3 (ad rfl rfl) ?_;intro a I;replace I:=I.kp [3,4,5,6,7] rfl;rw[Jq hv (.inr ⟨u,hu,h57⟩),List.append_cons]at ho;have el:out.length+1=(out++[v]).length:=by simp
      rw[el]at I;exact⟨us.length+vs.length-(i+(j+1)),by omega,i,j+1,out++[v],A75,c75,I,pw (fW (((O.p 3).p 3).p 2) el (by simp)),by omega,by omega,by simp;omega,ho,rfl⟩
    ·clear I a;intro h47;intro a I;contradiction
  ·intro h32;refine uO 3 ?_;refine u1 0 (ak rfl aA) ?_;refine aK 0 0 (aq rfl rfl) ?_ ?_
   ·intro h37;refine uO 8 ?_;intro a I;refine cD (fun w'=>Sat _ w' _) (by kernel_rfl) (by kernel_rfl) O.drew ?_;refine rQ 2 I ?_;clear I a;refine bc 0 (fun w O=>(ak rfl aA)) ?_;intro a I;refine K.rn I rfl rfl rfl (fun w O=>(aY (I.ev rfl) (I.ev rfl))) ?_ ?_
    ·clear I a;intro h42;intro a I;exfalso;omega
    ·clear I a;intro h42;refine uQ 3 ?_;refine bc 0 (fun w O=>(ak rfl aA)) ?_;intro a I;refine K.lx I (aL I rfl rfl rfl) rfl rfl (fun w O=>(aq (I.ev rfl) (I.ev rfl))) ?_ ?_
     ·clear I a;intro h47;intro a I;contradiction
     ·clear I a;intro h47;refine uQ 12 ?_;intro a I;refine wpQuiet_nil ?_;clear O;intro w O;refine rE 7 I ?_;clear I a;obtain⟨A2_p,rfl⟩:∃q,A2=some q:=(O.p 1).rd.ao (by omega);obtain⟨v,hv⟩:∃zz_,vs[j]?=some zz_:=⟨_,List.getElem?_eq_getElem (by omega)⟩;refine u1 0 (ix rfl rfl aA fO) ?_;refine u1 0 (aj rfl dE (eO (O.p 1).rd (aV hv))) ?_;intro a I;refine nF I rfl rfl aA jN rfl rfl rfl (by simp[Value.oneCell']) O ?_;clear I a O;intro A74 w O;intro a I;refine dj I rfl rfl rfl aA jN rfl (O.p 1) (O.rd.src aA (by simp[Value.oneCell'])) (by omega) (by omega) ?_;clear I a O;intro A75 c75 w hc75 O;refine uO 5 ?_;refine u1 3 (ad rfl rfl) ?_;intro a I;replace I:=I.kp [3,4,5,6,7] rfl;rw[Jq hv (.inl (by omega)),List.append_cons]at ho;have el:out.length+1=(out++[v]).length:=by simp
      rw[el]at I;exact⟨us.length+vs.length-(i+(j+1)),by omega,i,j+1,out++[v],A75,c75,I,pw (fW (((O.p 3).p 3).p 2) el (by simp)),by omega,by omega,by simp;omega,ho,rfl⟩
   ·intro h37;refine uO 16 ?_;refine aS ?_;rw[Hs (by omega) (by omega),List.append_nil]at ho;subst ho;refine⟨_,_,_,rfl,?_,oI _ us vs (Nat.le_refl _) ha1 ha2,bY O⟩;refine (ic _ us vs (Nat.le_refl _)).trans ((hp1.append hp2).trans ?_);rw[List.take_append_drop]
theorem na:∀(k:Nat) (W:World) (A:Option Addr) (n c:Nat) (xs:List Int),n≤k→n≤1000000000000→Rd W 1 (.slice A n c) n (xs.map (Value.int .i64))→Calls Tryz.prog 296 #[.slice A n c] W fun e w'=>∃A' c' ys,e=.returned (.slice A' ys.length c')∧ys.Perm xs∧zY ys∧Sat W w' [cM 3 A' c' ys]
 | 0,W,A,n,c,xs,hk,hl,hX=>sr W A n c xs hX hl fun _ _ _ _ _ h _=>absurd h (by omega)
 | k+1,W,A,n,c,xs,hk,hl,hX=>sr W A n c xs hX hl fun W A m c xs h hX=>na k W A m c xs (by omega) (by omega) hX
def Loc.eP (e:Nat)(l:Loc Int):As:=cM e l.a l.c l.xs
abbrev dz {α:Type}(ty t:Nat)(ls:List (Loc α)):As:=a6 t (.cells (ls.map Loc.v).toArray ty (0,0))
theorem iG {α:Type}{f:Loc α→As}{ls:List (Loc α)}{i:Nat}{l:Loc α}(h:ls[i]?=some l):(ls.map f)[i]?=some (f l):=by rw[List.getElem?_map,h];rfl
theorem gz {α:Type}{W w:World}{L:List As}{ty t i k:Nat}{ls:List (Loc α)}{l:Loc α}(s:Sat W w (dz ty t ls::L))(h:ls[i]?=some l)(hk:k=i:=by simp):w.cell? ⟨t,k,none⟩=some (.slice l.a l.xs.length l.c):=by
 subst hk;exact s.ph (by simp[h,Loc.v])
theorem kI {α:Type}{W w:World}{L:List As}{ty t:Nat}{ls:List (Loc α)}(s:Sat W w (dz ty t ls::L)):∀j u,(ls.map Loc.v)[j]?=some u→w.cell? ((⟨t,0,none⟩:Addr).add j)=some u:=fun j u h=>by
 rw[add_lit,Nat.zero_add];exact s.ph (by simpa using h)
theorem jx {α:Type}{W w:World}{L:List As}{f:Loc α→As}{i:Nat}{ls:List (Loc α)}{l l':Loc α}(h:ls[i]?=some l)(s:Sat W w (f l'::br ((ls.map f).eraseIdx i)::L)):Sat W w (br ((ls.set i l').map f)::L):=by
 rw[List.map_set];exact Sat.vt (by rw[List.length_map];exact (List.getElem?_eq_some_iff.1 h).1) s
theorem kq {W w:World}{L:List As}{e i:Nat}{ls:List (Loc Int)}{l:Loc Int}(s:Sat W w (br (ls.map (Loc.eP e))::L))(h:ls[i]?=some l):j2 w l.a l.c l.xs:=(s.dO (iG h)).rd
theorem kX {α:Type}{W w:World}{L:List As}(f:Loc α→As)(s:Sat W w L)(h0:∀L',Sat W w L'→Sat W w (f ⟨none,0,[]⟩::L')):∀n,Sat W w (br ((List.replicate n (⟨none,0,[]⟩:Loc α)).map f)::L)
 | 0=>s.kM
 | n+1=>(h0 _ (kX f s h0 n)).oQ
def dF {α:Type}(ls:List (Loc α))(f:Nat→List α):Prop:=ls.length=16∧∀r l,ls[r]?=some l→l.xs=f r
theorem dF.get {α:Type}{ls:List (Loc α)}{f:Nat→List α}(h:dF ls f){r:Nat}(hr:r<16):∃A c,ls[r]?=some ⟨A,c,f r⟩:=by
 have hl:r<ls.length:=by rw[h.1];exact hr
 have:=h.2 r ls[r] (List.getElem?_eq_getElem hl);refine⟨ls[r].a,ls[r].c,?_⟩;rw[List.getElem?_eq_getElem hl,←this]
theorem dF.set {α:Type}{ls:List (Loc α)}{f g:Nat→List α}(h:dF ls f){r:Nat}{l:Loc α}(hl:l.xs=g r)(hg:∀k,k<16→k≠r→g k=f k):dF (ls.set r l) g:=by
 refine⟨by rw[List.length_set];exact h.1,fun k x hx=>?_⟩;have hk:k<16:=by have:=(List.getElem?_eq_some_iff.1 hx).1;rw[List.length_set,h.1]at this;exact this
 by_cases e:r=k
 ·
  subst e;rw[List.getElem?_set_self (by rw[h.1];exact hk)]at hx;cases hx;exact hl
 ·
  rw[List.getElem?_set_ne e]at hx;rw[h.2 k x hx,hg k hk (Ne.symm e)]
theorem dF.congr {α:Type}{ls:List (Loc α)}{f g:Nat→List α}(h:dF ls f)(hg:∀k,k<16→f k=g k):dF ls g:=⟨h.1,fun r l hl=>by
 have hr:r<16:=by have:=(List.getElem?_eq_some_iff.1 hl).1;rw[h.1]at this;exact this
 rw[h.2 r l hl,hg r hr]⟩
theorem kj {α:Type}:dF (List.replicate 16 (⟨none,0,[]⟩:Loc α)) (fun _=>[]):=⟨by simp,fun r l h=>by
 have:=List.mem_of_getElem? h;rw[List.eq_of_mem_replicate this]⟩
section
variable {α:Type} {P:Program} {ops:Array Oper} {a:Act} {n:Nat} {E:Env} {w W:World} {rest:List Oper} {Q:Exit→Act→World→Prop} {L:List As} {t ty:TypeId} {ps:String} {af:Array Edge} {x y:Operand} {ds:List Deferred}
theorem JP {tb i t':Nat}{p:Addr}{v:Value}{ls:List (Loc α)}{l:Loc α}(l':Loc α)(I:Ag a n E ds)(hx:fC E x=some (.pointer (some p)))(hp:p=⟨tb,i,none⟩)(hy:fC E y=some v)(hv:v=l'.v)(ht:flat P t=true)(h1:(P.info? t).map (·.size)=some 1)
 (s:Sat W w (dz t' tb ls::L)) (hi:ls[i]?=some l) (k:∀w',Sat W w' (dz t' tb (ls.set i l')::L)→wpList P ops Q rest a w'):wpList P ops Q (⟨none,.store t x y,ty,ps,af,none⟩::rest) a w:=by
 subst hp hv;refine mQ I hx hy ht h1 rfl s (u:=l.v) (by rw[l7];simp[hi]) fun w' h=>k w' ?_;rw[dz,List.map_set];simpa using h
theorem Hx {q:Nat}{K:Act→World→Prop}{tb i t':Nat}{p:Addr}{v:Value}{ls:List (Loc α)}{l:Loc α}(l':Loc α)(I:Ag a n E ds)(hi':ops[q]?=some ⟨none,.store t x y,ty,ps,af,none⟩)(hx:fC E x=some (.pointer (some p)))(hp:p=⟨tb,i,none⟩)(hy:fC E y=some v)(hv:v=l'.v)(ht:flat P t=true)(h1:(P.info? t).map (·.size)=some 1)
 (s:Sat W w (dz t' tb ls::L)) (hi:ls[i]?=some l) (k:∀w',Sat W w' (dz t' tb (ls.set i l')::L)→K a w'):wpOp P ops Q q K a w:=by
 subst hp hv;refine eW I hi' hx hy ht h1 rfl s (u:=l.v) (by rw[l7];simp[hi]) fun w' h=>k w' ?_;rw[dz,List.map_set];simpa using h
theorem Gc {tb t':Nat}{cs:List Value}{ls:List (Loc α)}(I:Ag a n E ds)(hx:fC E x=some (.pointer (some ⟨tb,0,none⟩)))(hy:fC E y=some (.agg (ls.map Loc.v).toArray))(h1:(P.info? t).map (·.size)=some 16)(hl:ls.length=16)(hc:cs.length=16)
 (s:Sat W w (a6 tb (.cells cs.toArray t' (0,0))::L)) (k:∀w',Sat W w' (dz t' tb ls::L)→wpList P ops Q rest a w'):wpList P ops Q (⟨none,.store t x y,ty,ps,af,none⟩::rest) a w:=by
 refine Ef (vs:=ls.map Loc.v) I hx hy (by rw[h1,List.length_map,hl]) (fun v hv=>?_) s (by rw[List.length_map];omega) fun w' h=>k w' ?_
 ·
  obtain⟨l,_,rfl⟩:=List.mem_map.1 hv;rfl
 ·
  have e:cs.take 0++ls.map Loc.v++cs.drop (0+(ls.map Loc.v).length)=ls.map Loc.v:=by
   rw[List.take_zero,List.nil_append,List.drop_of_length_le (by rw[List.length_map];omega),List.append_nil]
  rw[e]at h;exact h
end
def wW (T:List aJ)(r k:Nat):List Int:=if k<r then bF (ar (gq T k)) else []
theorem Ct (T:List aJ)(r:Nat):wW T (r+1) r=bF (ar (gq T r)):=if_pos (Nat.lt_succ_self r)
theorem C0 {T:List aJ}{r k:Nat}(h:k≠r):wW T (r+1) k=wW T r k:=by
 unfold wW
 by_cases h1:k<r
 ·
  rw[if_pos h1,if_pos (by omega)]
 ·
  rw[if_neg h1,if_neg (by omega)]
def pD (ps:List PL)(i:Nat):aJ:=match ps[i]? with | some p=>p.d | none=>⟨[],[]⟩
theorem BY {ps:List PL}{i:Nat}{p:PL}(h:ps[i]?=some p):pD ps i=p.d:=by unfold pD;rw[h]
theorem w3 {l:List bq}{q:Nat}{x:bq}(h:l[q]?=some x):(bF l)[2 * q]?=some x.1∧(bF l)[2 * q+1]?=some (x.2+1):=by
 induction l generalizing q with
 | nil=>simp at h
 | cons y l ih =>
   cases q with
   | zero=>simp at h;subst h;exact⟨rfl,rfl⟩
   | succ q =>
     have:=ih (q:=q) (by simpa using h);rw[show 2 * (q+1)=2 * q+1+1 from by omega];exact this
theorem wq {g:List bq}{x:bq}(h:can (g++[x])):aQ (g++[x])=if x.1=1 then (x.2,[]) else ((aQ g).1,(aQ g).2++[x]):=by
 cases g with
 | nil=>rw[List.nil_append,fY];split<;>rfl
 | cons y t =>
   have h1:=h.2.2.2.1 x (by simp);have h2:=h.1;have h3:=h.2.1;rw[List.cons_append,fY,fY,if_neg (by omega:¬x.1=1)]
   split<;>rfl
def jS (f:Nat→Int)(r:Nat)(x:Int):List Value:=((List.range r).map f++(x::List.replicate (15-r) 0)).map (Value.int .i64)
theorem yO {f:Nat→Int}{r:Nat}(hr:r<16):((List.range r).map f++List.replicate (16-r) 0).map (Value.int .i64)=jS f r 0:=by
 unfold jS;rw[show 16-r=(15-r)+1 from by omega,List.replicate_succ]
theorem AR {f:Nat→Int}{r:Nat}(x y:Int):(jS f r x).set r (.int .i64 y)=jS f r y:=by
 unfold jS;rw[show Value.int .i64 y=Value.int .i64 y from rfl,←List.map_set]
 congr 1
 rw[List.set_append_right _ _ (by simp)];simp
theorem Am {f:Nat→Int}{r:Nat}(x:Int):(jS f r x)[r]?=some (.int .i64 x):=by
 unfold jS;rw[List.getElem?_map,List.getElem?_append_right (by simp)];simp
theorem Ad {f:Nat→Int}{r:Nat}(hr:r<16):jS f r (f r)=((List.range (r+1)).map f++List.replicate (16-(r+1)) 0).map (Value.int .i64):=by
 unfold jS
 congr 1
 rw[List.range_succ,List.map_append,List.append_assoc,show 16-(r+1)=15-r from by omega]
 rfl
theorem qw {f:Nat→List bq}{B:Nat}(hb:∀r,r<16→(f r).length≤B):∀r,r≤16→((List.range r).flatMap (aP f)).length≤r * B
 | 0,_=>by simp
 | r + 1, h => by
   have h1:=qw hb r (by omega);have h2:=hb r (by omega);have h4:=lM (f r);rw[mq,qL,List.length_append,List.length_map,Nat.add_mul];omega
theorem yw {l:List bq}(h:can l)(q:Nat):can (l.take q):=tv (m:=l.drop q) (by rw[List.take_append_drop];exact h)
theorem jl {α:Type}{W w:World}{L:List As}{ty t i k c:Nat}{A:Option Addr}{xs:List α}{ls:List (Loc α)}(s:Sat W w (dz ty t ls::L))(h:ls[i]?=some ⟨A,c,xs⟩)(hk:k=i:=by simp):w.cell? ⟨t,k,none⟩=some (.slice A xs.length c):=gz s h hk
theorem CJ (f:Nat→List bq){r q:Nat}{x:bq}(hx:(f r)[q]?=some x):cV ((f r).take (q+1))=cV ((f r).take q)+(x.2-x.1+1):=by rw[ay hx,qR];simp[cV]
theorem AT {l:List Int}(h:∀x∈l,0≤x):0≤l.sum∧(l.sum=0→∀x∈l,x=0):=by
 induction l with
 | nil=>simp
 | cons a l ih =>
   obtain⟨h1,h2⟩:=ih fun x hx=>h x (by simp[hx])
   have ha:=h a (by simp);rw[List.sum_cons];refine⟨by omega,fun h0 x hx=>?_⟩;rcases List.mem_cons.1 hx with rfl | hx
   ·
    omega
   ·
    exact h2 (by omega) x hx
theorem rG (p:aJ):ew p=true↔∀r,r<16→aO p r=[]:=by
 unfold ew BV;rw[decide_eq_true_eq]
 have hn:∀x∈(List.range 16).map fun r=>cV (aO p r),0≤x:=fun x hx=>by
  obtain⟨r,_,rfl⟩:=List.mem_map.1 hx;exact (iP (bw p r)).1
 constructor
 ·
  intro h r hr;exact (iP (bw p r)).2.1 ((AT hn).2 h _ (List.mem_map.2 ⟨r,List.mem_range.2 hr,rfl⟩))
 ·
  intro h;have:(List.range 16).map (fun r=>cV (aO p r))=(List.range 16).map fun _=>0:=List.map_congr_left fun r hr=>by rw[h r (List.mem_range.1 hr)];rfl
  rw[this];decide
theorem xR (a b:aJ):ew (jQ a b)=ck a b:=by
 rw[Bool.eq_iff_iff,rG,zD,tw];constructor
 ·
  intro h r hr;rw[←km a b hr];exact h r hr
 ·
  intro h r hr;rw[km a b hr];exact h r hr
theorem uk (rule:Int):bZ rule false false=false:=by simp[bZ]
theorem Aq:bZ 2=fun a b=>a && !b:=by funext a b;simp[bZ]
theorem yM (W:World)(A:Option Addr)(n c:Nat)(B:Option Addr)(m d:Nat)(raw:List bq)(hX:Rd W 1 (.slice A n c) n ((raw.map Prod.fst).map (Value.int .i64)))(hY:Rd W 1 (.slice B m d) m ((raw.map Prod.snd).map (Value.int .i64)))(hn:n=raw.length)(hm:m=raw.length)(hl:raw.length≤100000000000):Calls Tryz.prog 289 #[.slice A n c,.slice B m d] W fun e w'=>∃A' c',e=.returned (.slice A' (bF (ar raw)).length c')∧Sat W w' [cM 3 A' c' (bF (ar raw))]:=by
 refine bP Tryz.func289 [0,1] ?_;have O:=Sat.start W;intro a I;subst hn hm;refine rC 18 I ?_;clear I a;intro a I;refine wp_loop_ghost (fun (mm:Nat) a w=>∃(i:Nat) (ins outs:List Int) (Ai Ao:Option Addr) (ci co:Nat),Ag a 98 [(0,.slice A (raw).length c),(1,.slice B (raw).length d),(5,.slice Ai (ins).length ci),(6,.slice Ao (outs).length co),(7,.int .i64 ((i:Nat):Int))]∧Sat W w ([cM 3 Ai ci ins,cM 3 Ao co outs])∧(i≤raw.length)∧(ins=((fj (raw.take i)).map Prod.fst))∧(outs=((fj (raw.take i)).map fun r=>r.2+1))∧mm=raw.length-i) raw.length ?_ ?_
 ·replace I:=I.kp [0,1,5,6,7] rfl;exact⟨0,[],[],none,none,0,0,I,((O.aX 3 1).aX 3 1),(by omega),(by rfl),(by rfl),by omega⟩
 intro m a w hI;clear O I;obtain⟨i,ins,outs,Ai,Ao,ci,co,I,O,hi,h1,h2,rfl⟩:=hI;refine rC 5 I ?_;clear I a;refine u1 0 (ak rfl aA) ?_;refine aK 0 0 (aq rfl rfl) ?_ ?_
 ·intro h17;refine uO 8 ?_;intro a I;refine cD (fun w'=>Sat _ w' _) (by kernel_rfl) (by kernel_rfl) O.drew ?_;refine rQ 2 I ?_;clear I a;obtain⟨A_p,rfl⟩:∃q,A=some q:=(hX.sat O).ao (by omega);obtain⟨r,hr⟩:∃zz_,raw[i]?=some zz_:=⟨_,List.getElem?_eq_getElem (by omega)⟩;have hr1:(raw.map Prod.fst)[i]?=some r.1:=by rw[List.getElem?_map,hr];rfl
  have hr2:(raw.map Prod.snd)[i]?=some r.2:=by rw[List.getElem?_map,hr];rfl
  have hcl:=iD (raw.take i);intro a I;rw[List.length_take]at hcl;have hl1:ins.length≤100000000000:=by rw[h1,List.length_map];omega
  have hl2:outs.length≤100000000000:=by rw[h2,List.length_map];omega
  refine Q1 0 I (fun w O=>(fV (I.ev rfl) (I.ev rfl) aA fO (by omega) (by omega))) ?_;clear I a;refine bc 0 (fun w O=>(aj rfl dE (eO (hX.sat O) (aV hr1)))) ?_;refine bc 2 (fun w O=>(ue rfl rfl)) ?_;obtain⟨B_p,rfl⟩:∃q,B=some q:=(hY.sat O).ao (by omega);refine bc 0 (fun w O=>(ix rfl rfl aA fO)) ?_;refine bc 0 (fun w O=>(aj rfl dE (eO (hY.sat O) (aV hr2)))) ?_;refine bc 2 (fun w O=>(yg rfl rfl)) ?_;intro a I;refine wpQuiet_nil ?_;clear O;intro w O;refine rE 5 I ?_;clear I a;refine aK 0 0 (dU rfl rfl) ?_ ?_
  ·intro h32;refine uO 7 ?_;intro a I;refine nF I rfl rfl aA jN rfl rfl rfl (by simp[Value.oneCell']) O ?_;clear I a O;intro A35 w O;intro a I;refine dj I rfl rfl rfl aA jN rfl (O.p 1) (O.rd.src aA (by simp[Value.oneCell'])) (by omega) (by omega) ?_;clear I a O;intro A36 c36 w hc36 O;refine uO 6 ?_;refine u1 0 (ad rfl rfl) ?_;intro a I;refine nF I rfl rfl aA jN rfl rfl rfl (by simp[Value.oneCell']) O ?_;clear I a O;intro A40 w O;intro a I;refine dj I rfl rfl rfl aA jN rfl (O.p 3) (O.rd.src aA (by simp[Value.oneCell'])) (by omega) (by omega) ?_;clear I a O;intro A41 c41 w hc41 O;refine uO 6 ?_;refine u1 2 (ad rfl rfl) ?_;intro a I;replace I:=I.kp [0,1,5,6,7] rfl;have hc:gJ r=some (max r.1 1,min r.2 1000000000):=by unfold gJ;rw[dI,if_pos h32]
   have ec:=nu (a:=raw.take i) hc;rw[←ay hr]at ec;have e1:ins.length+1=(ins++[max r.1 1]).length:=by simp
   have e2:outs.length+1=(outs++[min r.2 1000000000+1]).length:=by simp
   rw[e1,e2]at I;exact⟨raw.length-(i+1),by omega,i+1,ins++[max r.1 1],outs++[min r.2 1000000000+1],_,_,_,_,I,oW (fW ((fW ((O.p 2).p 1) e2 (by simp)).p 1) e1 (by simp)),by omega,by rw[ec,h1];simp,by rw[ec,h2];simp,rfl⟩
  ·intro h32;refine uO 8 ?_;refine u1 2 (ad rfl rfl) ?_;intro a I;replace I:=I.kp [0,1,5,6,7] rfl;have hc:gJ r=none:=by unfold gJ;rw[dI,if_neg h32]
   have ec:=nG (a:=raw.take i) hc;rw[←ay hr]at ec;exact⟨raw.length-(i+1),by omega,i+1,ins,outs,_,_,_,_,I,O,by omega,by rw[ec,h1],by rw[ec,h2],rfl⟩
 ·intro h17;obtain rfl:i=raw.length:=by omega
  intro a I;rw[List.take_length]at h1 h2;have hcl:=iD raw;have hl1:ins.length≤100000000000:=by rw[h1,List.length_map];omega
  have hl2:outs.length≤100000000000:=by rw[h2,List.length_map];omega
  refine rO 11 I ?_;clear I a;refine uF rfl (na _ _ _ _ _ ins (Nat.le_refl _) (by omega) O.rd) ?_;rintro e w ⟨A1,c1,us,rfl,hp1,ha1,hT⟩;replace O:=O.au hT;clear hT;refine uO 6 ?_;refine uF rfl (na _ _ _ _ _ outs (Nat.le_refl _) (by omega) (O.p 2).rd) ?_;rintro e w ⟨A2,c2,vs,rfl,hp2,ha2,hT⟩;replace O:=O.au hT;clear hT;have hlu:=hp1.length_eq;have hlv:=hp2.length_eq;intro a I;rw[h1]at hp1;rw[h2]at hp2;have hw0:=DV ha1 ha2 hp1 hp2;refine rO 3 I ?_;clear I a;intro a I;replace I:=I.kp [5,6] rfl;refine rC 18 I ?_;clear I a;intro a I
  refine wp_loop_ghost (fun (mm:Nat) a w=>∃(i j d:Nat) (out:List Int) (Ao:Option Addr) (co:Nat),Ag a 98 [(5,.slice A1 (us).length c1),(6,.slice A2 (vs).length c2),(10,.slice Ao (out).length co),(11,.int .i64 ((d:Nat):Int)),(12,.int .i64 ((j:Nat):Int)),(13,.int .i64 ((i:Nat):Int))]∧Sat W w ([cM 3 Ao co out,cM 3 A2 c2 vs,cM 3 A1 c1 us])∧(i≤us.length)∧(j≤vs.length)∧(out.length≤i+j)∧(HJ us vs i j d)∧(out++fM (us.drop i) (vs.drop j) d=bF (ar raw))∧mm=us.length+vs.length-(i+j)) (us.length+vs.length) ?_ ?_
  ·replace I:=I.kp [5,6,10,11,12,13] rfl;exact⟨0,0,0,[],none,0,I,pw (O.aX 3 1),(by omega),(by omega),(by simp),(by exact hw0),(by exact Ej ha1 ha2 hp1 hp2),by omega⟩
  intro m a w hI;clear O I;obtain⟨i,j,d,out,Ao,co,I,O,hi,hj,hol,hw,ho,rfl⟩:=hI;refine rC 5 I ?_;clear I a;refine u1 0 (ak rfl aA) ?_;refine aK 0 0 (aq rfl rfl) ?_ ?_
  ·intro h49;have hbal:=hw.J1;obtain⟨b,hv⟩:∃x,vs[j]?=some x:=⟨_,List.getElem?_eq_getElem (by omega)⟩;refine uO 13 ?_;intro a I;refine cD (fun w'=>Sat _ w' _) (by kernel_rfl) (by kernel_rfl) O.drew ?_;refine rQ 2 I ?_;clear I a;refine bc 0 (fun w O=>(ak rfl aA)) ?_;intro a I;refine K.rn I rfl rfl rfl (fun w O=>(aq (I.ev rfl) (I.ev rfl))) ?_ ?_
   ·clear I a;intro h59;refine uQ 3 ?_;obtain⟨A1_p,rfl⟩:∃q,A1=some q:=(O.p 2).rd.ao (by omega);obtain⟨x1,hu⟩:∃zz_,us[i]?=some zz_:=⟨_,List.getElem?_eq_getElem (by omega)⟩;refine bc 0 (fun w O=>(ix rfl rfl aA fO)) ?_;refine bc 2 (fun w O=>(aj rfl dE (eO (O.p 2).rd (aV hu)))) ?_;obtain⟨A2_p,rfl⟩:∃q,A2=some q:=(O.p 1).rd.ao (by omega);refine bc 0 (fun w O=>(ix rfl rfl aA fO)) ?_;refine bc 0 (fun w O=>(aj rfl dE (eO (O.p 1).rd (aV hv)))) ?_;intro a I;refine K.lx I (aL I rfl rfl rfl) rfl rfl (fun w O=>(dU (I.ev rfl) (I.ev rfl))) ?_ ?_
    ·clear I a;intro h69;refine uQ 1 ?_;intro a I;refine wpQuiet_nil ?_;clear O;intro w O;refine rE 6 I ?_;clear I a;refine aK 0 0 (aY rfl rfl) ?_ ?_
     ·intro h72;refine uO 7 ?_;refine u1 0 (ix rfl rfl aA fO) ?_;refine u1 0 (aj rfl dE (eO (O.p 2).rd (aV hu))) ?_;intro a I;refine nF I rfl rfl aA jN rfl rfl rfl (by simp[Value.oneCell']) O ?_;clear I a O;intro A78 w O;intro a I;refine dj I rfl rfl rfl aA jN rfl (O.p 1) (O.rd.src aA (by simp[Value.oneCell'])) (by omega) (by omega) ?_;clear I a O;intro A79 c79 w hc79 O;refine uO 6 ?_;refine u1 5 (ad rfl rfl) ?_;refine u1 3 (ad rfl rfl) ?_;intro a I;replace I:=I.kp [5,6,10,11,12,13] rfl;obtain⟨hw2,es⟩:=GS hw hu hv h69;rw[es,if_pos (by omega),←List.append_assoc]at ho;have el:out.length+1=(out++[x1]).length:=by simp
      rw[el]at I;exact⟨us.length+vs.length-(i+1+(j)),by omega,i+1,j,d+1,out++[x1],_,_,I,pw (fW (((O.p 3).p 3).p 2) el (by simp)),by omega,by omega,by simp;omega,hw2,ho,rfl⟩
     ·intro h72;refine uO 8 ?_;refine u1 5 (ad rfl rfl) ?_;refine u1 3 (ad rfl rfl) ?_;intro a I;replace I:=I.kp [5,6,10,11,12,13] rfl;obtain⟨hw2,es⟩:=GS hw hu hv h69;rw[es,if_neg (by omega),List.nil_append]at ho;exact⟨us.length+vs.length-(i+1+(j)),by omega,i+1,j,d+1,out,_,_,I,O,by omega,by omega,by omega,hw2,ho,rfl⟩
    ·clear I a;intro h69;refine uQ 1 ?_;intro a I;refine wpQuiet_nil ?_;clear O;intro w O;refine rE 5 I ?_;clear I a;refine u1 7 (sb rfl rfl) ?_;refine aK 0 0 (aY rfl rfl) ?_ ?_
     ·intro h87;refine uO 7 ?_;refine u1 0 (ix rfl rfl aA fO) ?_;refine u1 0 (aj rfl dE (eO (O.p 1).rd (aV hv))) ?_;intro a I;refine nF I rfl rfl aA jN rfl rfl rfl (by simp[Value.oneCell']) O ?_;clear I a O;intro A93 w O;intro a I;refine dj I rfl rfl rfl aA jN rfl (O.p 1) (O.rd.src aA (by simp[Value.oneCell'])) (by omega) (by omega) ?_;clear I a O;intro A94 c94 w hc94 O;refine uO 5 ?_;refine u1 3 (ad rfl rfl) ?_;intro a I;replace I:=I.kp [5,6,10,11,12,13] rfl;obtain⟨bY,hw2,es⟩:=xi hw hv (.inr ⟨x1,hu,h69⟩);rw[es,if_pos (by omega),←List.append_assoc]at ho;rw[show (d:Int)-1=((d-1:Nat):Int) from by omega]at I;have el:out.length+1=(out++[b]).length:=by simp
      rw[el]at I;exact⟨us.length+vs.length-(i+(j+1)),by omega,i,j+1,d-1,out++[b],_,_,I,pw (fW (((O.p 3).p 3).p 2) el (by simp)),by omega,by omega,by simp;omega,hw2,ho,rfl⟩
     ·intro h87;refine uO 7 ?_;refine u1 3 (ad rfl rfl) ?_;intro a I;replace I:=I.kp [5,6,10,11,12,13] rfl;obtain⟨bY,hw2,es⟩:=xi hw hv (.inr ⟨x1,hu,h69⟩);rw[es,if_neg (by omega),List.nil_append]at ho;rw[show (d:Int)-1=((d-1:Nat):Int) from by omega]at I;exact⟨us.length+vs.length-(i+(j+1)),by omega,i,j+1,d-1,out,_,_,I,O,by omega,by omega,by omega,hw2,ho,rfl⟩
   ·clear I a;intro h59;intro a I;contradiction
  ·intro h49;refine uO 3 ?_;refine u1 0 (ak rfl aA) ?_;refine aK 0 0 (aq rfl rfl) ?_ ?_
   ·intro h54;have hbal:=hw.J1;obtain⟨b,hv⟩:∃x,vs[j]?=some x:=⟨_,List.getElem?_eq_getElem (by omega)⟩;refine uO 8 ?_;intro a I;refine cD (fun w'=>Sat _ w' _) (by kernel_rfl) (by kernel_rfl) O.drew ?_;refine rQ 2 I ?_;clear I a;refine bc 0 (fun w O=>(ak rfl aA)) ?_;intro a I;refine K.rn I rfl rfl rfl (fun w O=>(aq (I.ev rfl) (I.ev rfl))) ?_ ?_
    ·clear I a;intro h59;intro a I;contradiction
    ·clear I a;intro h59;refine uQ 11 ?_;intro a I;refine wpQuiet_nil ?_;clear O;intro w O;refine rE 5 I ?_;clear I a;refine u1 7 (sb rfl rfl) ?_;refine aK 0 0 (aY rfl rfl) ?_ ?_
     ·intro h87;refine uO 7 ?_;obtain⟨A2_p,rfl⟩:∃q,A2=some q:=(O.p 1).rd.ao (by omega);refine u1 0 (ix rfl rfl aA fO) ?_;refine u1 0 (aj rfl dE (eO (O.p 1).rd (aV hv))) ?_;intro a I;refine nF I rfl rfl aA jN rfl rfl rfl (by simp[Value.oneCell']) O ?_;clear I a O;intro A93 w O;intro a I;refine dj I rfl rfl rfl aA jN rfl (O.p 1) (O.rd.src aA (by simp[Value.oneCell'])) (by omega) (by omega) ?_;clear I a O;intro A94 c94 w hc94 O;refine uO 5 ?_;refine u1 3 (ad rfl rfl) ?_;intro a I;replace I:=I.kp [5,6,10,11,12,13] rfl;obtain⟨bY,hw2,es⟩:=xi hw hv (.inl (by omega));rw[es,if_pos (by omega),←List.append_assoc]at ho;rw[show (d:Int)-1=((d-1:Nat):Int) from by omega]at I;have el:out.length+1=(out++[b]).length:=by simp
      rw[el]at I;exact⟨us.length+vs.length-(i+(j+1)),by omega,i,j+1,d-1,out++[b],_,_,I,pw (fW (((O.p 3).p 3).p 2) el (by simp)),by omega,by omega,by simp;omega,hw2,ho,rfl⟩
     ·intro h87;refine uO 7 ?_;refine u1 3 (ad rfl rfl) ?_;intro a I;replace I:=I.kp [5,6,10,11,12,13] rfl;obtain⟨bY,hw2,es⟩:=xi hw hv (.inl (by omega));rw[es,if_neg (by omega),List.nil_append]at ho;rw[show (d:Int)-1=((d-1:Nat):Int) from by omega]at I;exact⟨us.length+vs.length-(i+(j+1)),by omega,i,j+1,d-1,out,_,_,I,O,by omega,by omega,by omega,hw2,ho,rfl⟩
   ·intro h54;refine uO 15 ?_;intro a I;replace I:=I.kp [4] rfl;refine rC 1 I ?_;clear I a;refine aS ?_;have hbal:=hw.J1;rw[List.drop_of_length_le (by omega),List.drop_of_length_le (by omega:vs.length≤j),sc,List.append_nil]at ho;rw[←ho];exact⟨_,_,rfl,bY O⟩
theorem Al (W:World)(A:Option Addr)(c:Nat)(ps:List PL)(hR:Bi W A c ps)(hE:∀p∈ps,p.ok W)(hn:ps.length≤1000000000000)(ht:cO (ps.map PL.d)≤100000000000):Calls Tryz.prog 279 #[.slice A (ps).length c] W fun e w'=>∃ls:List (Loc Int),e=.returned (.agg (ls.map Loc.v).toArray)∧dF ls (fun r=>bF (ar (gq (ps.map PL.d) r)))∧Sat W w' [br (ls.map (Loc.eP 3))]:=by
 refine bP Tryz.func279 [0] ?_;have O:=Sat.start W;refine uC 2 ?_;refine uN wi O ?_;clear O;intro b2 w O;refine uO 4 ?_;refine uN Gm O ?_;clear O;intro b3 w O;refine uN Gm O ?_;clear O;intro b4 w O;refine uO 9 ?_;intro a I;refine wp_loop_ghost (fun (mm:Nat) a w=>∃(i:Nat) (l1 l2:List (Loc Int)),Ag a 116 [(0,.slice A (ps).length c),(2,.pointer (some ⟨b2,0,none⟩)),(3,.pointer (some ⟨b3,0,none⟩)),(4,.pointer (some ⟨b4,0,none⟩)),(5,.int .i64 ((i:Nat):Int))]∧Sat W w ([dz 375 b3 l1,br (l1.map (Loc.eP 3)),dz 375 b4 l2,br (l2.map (Loc.eP 3)),dz 377 b2 (List.replicate 16 (⟨none,0,[]⟩:Loc Int))])∧(i≤ps.length)∧(dF l1 (fun r=>(gq ((ps.map PL.d).take i) r).map Prod.fst))∧(dF l2 (fun r=>(gq ((ps.map PL.d).take i) r).map Prod.snd))∧mm=ps.length-i) ps.length ?_ ?_
 ·replace I:=I.kp [0,2,3,4,5] rfl;have hS0:=kX (Loc.eP 3) (kX (Loc.eP 3) O (fun L' s=>s.aX 3 1) 16) (fun L' s=>s.aX 3 1) 16;have hS1:Sat W w [dz 375 b3 (List.replicate 16 (⟨none,0,[]⟩:Loc Int)),br ((List.replicate 16 (⟨none,0,[]⟩:Loc Int)).map (Loc.eP 3)),dz 375 b4 (List.replicate 16 (⟨none,0,[]⟩:Loc Int)),br ((List.replicate 16 (⟨none,0,[]⟩:Loc Int)).map (Loc.eP 3)),dz 377 b2 (List.replicate 16 (⟨none,0,[]⟩:Loc Int))]:=(((((hS0.p 4).p 2).p 3).p 3).p 4);exact⟨0,_,_,I,hS1,(by omega),(by exact kj),(by exact kj),by omega⟩
 intro m a w hI;clear O I;obtain⟨i,l1,l2,I,O,hi,hT1,hT2,rfl⟩:=hI;refine rC 5 I ?_;clear I a;refine u1 0 (ak rfl fJ) ?_;refine aK 0 0 (aq rfl rfl) ?_ ?_
 ·intro h14;refine uO 14 ?_;intro a I;refine wp_loop_ghost (fun (mm:Nat) a w=>∃(j:Nat) (l1 l2:List (Loc Int)),Ag a 116 [(0,.slice A (ps).length c),(2,.pointer (some ⟨b2,0,none⟩)),(3,.pointer (some ⟨b3,0,none⟩)),(4,.pointer (some ⟨b4,0,none⟩)),(5,.int .i64 ((i:Nat):Int)),(6,.int .i64 ((j:Nat):Int))]∧Sat W w ([dz 375 b3 l1,br (l1.map (Loc.eP 3)),dz 375 b4 l2,br (l2.map (Loc.eP 3)),dz 377 b2 (List.replicate 16 (⟨none,0,[]⟩:Loc Int))])∧(j≤16)∧(dF l1 (fun r=>(dq ((ps.map PL.d).take i) (pD ps i) j 0 r).map Prod.fst))∧(dF l2 (fun r=>(dq ((ps.map PL.d).take i) (pD ps i) j 0 r).map Prod.snd))∧(j≤(pD ps i).vec.length)∧mm=16-j) 16 ?_ ?_
  ·replace I:=I.kp [0,2,3,4,5,6] rfl;exact⟨0,_,_,I,O,(by omega),(by exact hT1.congr fun r hr=>by rw[sd]),(by exact hT2.congr fun r hr=>by rw[sd]),(by omega),by omega⟩
  intro m a w hI;clear O I;obtain⟨j,l1,l2,I,O,hj,hT1,hT2,hj2,rfl⟩:=hI;refine rC 6 I ?_;clear I a;obtain⟨A_p,rfl⟩:∃q,A=some q:=(hR.sat O).ao (by omega);obtain⟨p,hp⟩:∃zz_,ps[i]?=some zz_:=⟨_,List.getElem?_eq_getElem (by omega)⟩;have hpo:=hE p (List.mem_of_getElem? hp);have hsp:=wL (kU hp);obtain⟨va,vc,ca,cc,d⟩:=p;have hpv:j2 W va vc d.vec:=hpo.vec;have hpc:gF W ca cc d.ab:=hpo.ab;intro a I;dsimp only at hsp;rw[BY hp]at hT1 hT2 hj2;dsimp only at hT1 hT2 hj2;refine o1 0 I (fV (I.ev rfl) (I.ev rfl) fJ bo (by omega) (by omega)) ?_;clear I a;refine u1 0 (aw rfl cz) ?_;refine u1 0 (aj rfl ik (bI (hR.sat O) (kJ hp 0 _ rfl))) ?_;refine u1 0 (ak rfl aA) ?_;refine aK 0 0 (aq rfl rfl) ?_ ?_
  ·intro h24;intro a I;dsimp only at h24;refine rO 2 I ?_;clear I a;refine aK 0 0 (aq rfl rfl) ?_ ?_
   ·intro h27;obtain⟨lA,lc,hl1⟩:=hT1.get (show j<16 by omega);obtain⟨mA,mc,hl2⟩:=hT2.get (show j<16 by omega);have hlen:=nK ((ps.map PL.d).take i) d j 0 j;have hq1:((dq ((ps.map PL.d).take i) d j 0 j).map Prod.fst).length≤100000000000:=by rw[List.length_map];omega
    have hq2:((dq ((ps.map PL.d).take i) d j 0 j).map Prod.snd).length≤100000000000:=by rw[List.length_map];omega
    intro a I;replace O:Sat W w (cM 3 lA lc ((dq ((ps.map PL.d).take i) d j 0 j).map Prod.fst)::_):=(O.p 1).dO (iG hl1);refine rO 12 I ?_;clear I a;refine u1 0 (iA rfl rfl fv fQ) ?_;refine u1 0 (aj rfl ik (gz (O.p 2) hl1)) ?_;intro a I;refine nF I rfl rfl aA jN rfl rfl rfl (by simp[Value.oneCell']) O ?_;clear I a O;intro A35 w O;intro a I;refine dj I rfl rfl rfl aA jN rfl (O.p 1) (O.rd.src aA (by simp[Value.oneCell'])) (by omega) (by omega) ?_;clear I a O;intro A36 c36 w hc36 O;refine u1 0 (iA rfl rfl fv fQ) ?_;intro a I;refine JP (i:=j) ⟨A36,c36,(dq ((ps.map PL.d).take i) d j 0 j).map Prod.fst++[1]⟩ I rfl (by simp) rfl (by simp[Loc.v]) ik fQ (O.p 3) hl1 ?_;clear O;intro w O
    replace O:=jx (f:=Loc.eP 3) hl1 (l':=⟨A36,c36,(dq ((ps.map PL.d).take i) d j 0 j).map Prod.fst++[1]⟩) (fW ((O.p 3).p 2) (by simp) (by simp));replace O:Sat W w (cM 3 mA mc ((dq ((ps.map PL.d).take i) d j 0 j).map Prod.snd)::_):=(O.p 4).dO (iG hl2);refine rO 2 I ?_;clear I a;intro a I;refine bj [13,15] O (by kernel_rfl) ?_;replace O:=O.drew;refine rX [0,1] I ?_;clear I a;refine bx 2 [] rfl (fun w=>(iA rfl rfl fv fQ)) ?_;refine cP 3 [4,5] rfl (by exact⟨[],O⟩) (fun w hT=>have O:=hT.sat;(aj rfl ik (gz (O.p 5) hl2))) ?_;refine bx 6 [] rfl (fun w=>(ix rfl rfl fJ bo)) ?_;refine bx 7 [] rfl (fun w=>(aw rfl cz)) ?_;refine cP 8 [9] rfl (by exact⟨[],O⟩) (fun w hT=>have O:=hT.sat;(aj rfl ik (bI (hR.sat O) (kJ hp 0 _ rfl)))) ?_
    obtain⟨va_p,rfl⟩:∃q,va=some q:=(hpv.sat O).ao (by omega);obtain⟨v,hv⟩:∃zz_,d.vec[j]?=some zz_:=⟨_,List.getElem?_eq_getElem (by omega)⟩;refine bx 10 [] rfl (fun w=>(ix rfl rfl aA fO)) ?_;refine cP 11 [] rfl (by exact⟨[],O⟩) (fun w hT=>have O:=hT.sat;(aj rfl dE (eO (hpv.sat O) (aV hv)))) ?_;intro a I;refine aD 12 (by kernel_rfl) ?_;refine eL I rfl rfl rfl aA jN rfl rfl rfl (by simp[Value.oneCell']) O ?_;clear I a O;intro A50 w O;intro a I;refine⟨.inr fun _=>(by exact⟨[_],O⟩),?_⟩;refine aD 13 (by kernel_rfl) ?_;refine eA I rfl rfl rfl rfl aA jN rfl (O.p 1) (O.rd.src aA (by simp[Value.oneCell'])) (by omega) (by omega) ?_;clear I a O;intro A51 c51 w hc51 O;intro a I;refine⟨.inl rfl,?_⟩;refine P1 14 [] I rfl (fun w=>(fI (I.ev rfl) (I.ev rfl) fv fQ (by omega) (by omega))) ?_;clear I a;intro a I
    refine aD 15 (by kernel_rfl) ?_;refine Hx (i:=j) ⟨A51,c51,(dq ((ps.map PL.d).take i) d j 0 j).map Prod.snd++[v]⟩ I rfl rfl (by simp) rfl (by simp[Loc.v]) ik fQ (O.p 6) hl2 ?_;clear O;intro w O;refine⟨.inl rfl,?_⟩;refine ah (by kernel_rfl) ?_ _;refine rE 4 I ?_;clear I a;refine u1 2 (ad rfl rfl) ?_;intro a I;replace I:=I.kp [0,2,3,4,5,6] rfl;have hS2:=jx (f:=Loc.eP 3) hl2 (l':=⟨A51,c51,(dq ((ps.map PL.d).take i) d j 0 j).map Prod.snd++[v]⟩) (fW ((O.p 3).p 2) (by simp) (by simp));have e1:(dq ((ps.map PL.d).take i) d (j+1) 0 j).map Prod.fst=(dq ((ps.map PL.d).take i) d j 0 j).map Prod.fst++[1]:=by rw[(mu hv).2];simp
    have e2:(dq ((ps.map PL.d).take i) d (j+1) 0 j).map Prod.snd=(dq ((ps.map PL.d).take i) d j 0 j).map Prod.snd++[v]:=by rw[(mu hv).2];simp
    refine⟨16-(j+1),by omega,j+1,_,_,I,(((((hS2.p 6).p 1).p 2).p 4).p 5).cW [_,_,_,_,_],by omega,?_,?_,by rw[BY hp];show j+1≤d.vec.length;omega,rfl⟩
    ·rw[BY hp];exact hT1.set e1.symm fun k hk hne=>by rw[(mu hv).1 k hne]
    ·rw[BY hp];exact hT2.set e2.symm fun k hk hne=>by rw[(mu hv).1 k hne]
   ·intro h27;obtain rfl:j=min d.vec.length 16:=by omega
    refine uO 15 ?_;intro a I;refine wp_loop_ghost (fun (mm:Nat) a w=>∃(k:Nat) (l1 l2:List (Loc Int)),Ag a 116 [(0,.slice (some A_p) (ps).length c),(2,.pointer (some ⟨b2,0,none⟩)),(3,.pointer (some ⟨b3,0,none⟩)),(4,.pointer (some ⟨b4,0,none⟩)),(5,.int .i64 ((i:Nat):Int)),(7,.int .i64 ((k:Nat):Int))]∧Sat W w ([dz 375 b3 l1,br (l1.map (Loc.eP 3)),dz 375 b4 l2,br (l2.map (Loc.eP 3)),dz 377 b2 (List.replicate 16 (⟨none,0,[]⟩:Loc Int))])∧(k≤d.ab.length)∧(dF l1 (fun r=>(dq ((ps.map PL.d).take i) d (min d.vec.length 16) k r).map Prod.fst))∧(dF l2 (fun r=>(dq ((ps.map PL.d).take i) d (min d.vec.length 16) k r).map Prod.snd))∧mm=d.ab.length-k) d.ab.length ?_ ?_
    ·replace I:=I.kp [0,2,3,4,5,7] rfl;exact⟨0,_,_,I,O,(by omega),(by exact hT1),(by exact hT2),by omega⟩
    intro m a w hI;clear O I;obtain⟨k,l1,l2,I,O,hk,hT1,hT2,rfl⟩:=hI;refine rC 6 I ?_;clear I a;refine u1 0 (ix rfl rfl fJ bo) ?_;refine u1 0 (aw rfl bX) ?_;refine u1 0 (aj rfl xj (bI (hR.sat O) (kJ hp 1 _ rfl))) ?_;refine u1 0 (ak rfl dk) ?_;refine aK 0 0 (aq rfl rfl) ?_ ?_
    ·intro h60;intro a I;dsimp only at h60;refine rO 11 I ?_;clear I a;refine u1 0 (ix rfl rfl fJ bo) ?_;refine u1 0 (aw rfl bX) ?_;refine u1 1 (aj rfl xj (bI (hR.sat O) (kJ hp 1 _ rfl))) ?_;obtain⟨ca_p,rfl⟩:∃q,ca=some q:=(hpc.sat O).ao (by omega);obtain⟨s,hs⟩:∃zz_,d.ab[k]?=some zz_:=⟨_,List.getElem?_eq_getElem (by omega)⟩;refine u1 0 (ix rfl rfl dk cL) ?_;refine u1 0 (ax (cs:=gm s) rfl j6 cL (fun j u e=>bI (hpc.sat O) (dD hs j u e))) ?_;refine uN mn O ?_;clear O;intro b8 w O;refine uW (vs:=[_,_,_]) (cs':=[_,_,_]) rfl rfl cL O ?_;clear O;intro w O;refine uO 4 ?_;refine u1 0 (aa rfl bT) ?_;refine u1 0 (ld rfl) ?_;refine aK 0 0 (dH rfl rfl) ?_ ?_
     ·intro h73;refine uO 1 ?_;refine u1 0 (aa rfl bT) ?_;refine u1 0 (ld rfl) ?_;refine aK 0 0 (aq rfl rfl) ?_ ?_
      ·intro h77;obtain⟨lA,lc,hl1⟩:=hT1.get (show s.rep.toNat<16 by omega);obtain⟨mA,mc,hl2⟩:=hT2.get (show s.rep.toNat<16 by omega);have hlen:=nK ((ps.map PL.d).take i) d (min d.vec.length 16) k s.rep.toNat;have hq1:((dq ((ps.map PL.d).take i) d (min d.vec.length 16) k s.rep.toNat).map Prod.fst).length≤100000000000:=by rw[List.length_map];omega
       have hq2:((dq ((ps.map PL.d).take i) d (min d.vec.length 16) k s.rep.toNat).map Prod.snd).length≤100000000000:=by rw[List.length_map];omega
       intro a I;replace O:Sat W w (cM 3 lA lc ((dq ((ps.map PL.d).take i) d (min d.vec.length 16) k s.rep.toNat).map Prod.fst)::_):=(O.p 2).dO (iG hl1);refine rO 5 I ?_;clear I a;intro a I;refine ja [11] (lq W [br ((l1.map (Loc.eP 3)).eraseIdx s.rep.toNat),a6 b8 (.cells #[.int .i64 s.rep,.int .i64 s.lo,.int .i64 s.hi] 219),dz 375 b3 l1,dz 375 b4 l2,br (l2.map (Loc.eP 3)),dz 377 b2 (List.replicate 16 (⟨none,0,[]⟩:Loc Int))]) (by kernel_rfl) ?_;replace O:=O.drew;refine P1 0 [] I rfl (fun w=>(aa (I.ev rfl) bT)) ?_;clear I a
       refine cP 1 [] rfl (by exact⟨[_],O⟩) (fun w hT=>have O:=hT.sat;(ld rfl)) ?_;refine bx 2 [] rfl (fun w=>(aa rfl bT)) ?_;refine cP 3 [] rfl (by exact⟨[_],O⟩) (fun w hT=>have O:=hT.sat;(ld rfl)) ?_;refine bx 4 [] rfl (fun w=>(iA rfl rfl fv fQ)) ?_;refine cP 5 [] rfl (by exact⟨[_],O⟩) (fun w hT=>have O:=hT.sat;(aj rfl ik (gz (O.p 2) hl1))) ?_;refine bx 6 [] rfl (fun w=>(aa rfl dS)) ?_;refine cP 7 [] rfl (by exact⟨[_],O⟩) (fun w hT=>have O:=hT.sat;(ld rfl)) ?_;intro a I;refine aD 8 (by kernel_rfl) ?_;refine eL I rfl rfl rfl aA jN rfl rfl rfl (by simp[Value.oneCell']) O ?_;clear I a O;intro A87 w O;intro a I;refine⟨.inr fun _=>(by exact⟨[_,_],O⟩),?_⟩;refine aD 9 (by kernel_rfl) ?_;refine eA I rfl rfl rfl rfl aA jN rfl (O.p 1) (O.rd.src aA (by simp[Value.oneCell'])) (by omega) (by omega) ?_
       clear I a O;intro A88 c88 w hc88 O;intro a I;refine⟨.inr fun _=>(by exact⟨[_,_],O⟩),?_⟩;refine P1 10 [] I rfl (fun w=>(fI (I.ev rfl) (I.ev rfl) fv fQ (by omega) (by omega))) ?_;clear I a;intro a I;refine aD 11 (by kernel_rfl) ?_;refine Hx (i:=s.rep.toNat) ⟨A88,c88,(dq ((ps.map PL.d).take i) d (min d.vec.length 16) k s.rep.toNat).map Prod.fst++[s.lo]⟩ I rfl rfl (by simp) rfl (by simp[Loc.v]) ik fQ (O.p 4) hl1 ?_;clear O;intro w O;replace O:=jx (f:=Loc.eP 3) hl1 (l':=⟨A88,c88,(dq ((ps.map PL.d).take i) d (min d.vec.length 16) k s.rep.toNat).map Prod.fst++[s.lo]⟩) (fW ((O.p 3).p 2) (by simp) (by simp));replace O:=(O.p 2).drop;replace O:Sat W w (cM 3 mA mc ((dq ((ps.map PL.d).take i) d (min d.vec.length 16) k s.rep.toNat).map Prod.snd)::_):=(O.p 4).dO (iG hl2);refine⟨.inl rfl,?_⟩
       refine ah (by kernel_rfl) ?_ _;refine rE 1 I ?_;clear I a;intro a I;refine ja [11] (lq W [br ((l2.map (Loc.eP 3)).eraseIdx s.rep.toNat),br ((l1.set s.rep.toNat ⟨A88,c88,(dq ((ps.map PL.d).take i) d (min d.vec.length 16) k s.rep.toNat).map Prod.fst++[s.lo]⟩).map (Loc.eP 3)),dz 375 b3 (l1.set s.rep.toNat ⟨A88,c88,(dq ((ps.map PL.d).take i) d (min d.vec.length 16) k s.rep.toNat).map Prod.fst++[s.lo]⟩),a6 b8 (.cells #[.int .i64 s.rep,.int .i64 s.lo,.int .i64 s.hi] 219),dz 375 b4 l2,dz 377 b2 (List.replicate 16 (⟨none,0,[]⟩:Loc Int))]) (by kernel_rfl) ?_;replace O:=O.drew;refine P1 0 [] I rfl (fun w=>(aa (I.ev rfl) bT)) ?_;clear I a
       refine cP 1 [] rfl (by exact⟨[_],O⟩) (fun w hT=>have O:=hT.sat;(ld rfl)) ?_;refine bx 2 [] rfl (fun w=>(aa rfl bT)) ?_;refine cP 3 [] rfl (by exact⟨[_],O⟩) (fun w hT=>have O:=hT.sat;(ld rfl)) ?_;refine bx 4 [] rfl (fun w=>(iA rfl rfl fv fQ)) ?_;refine cP 5 [] rfl (by exact⟨[_],O⟩) (fun w hT=>have O:=hT.sat;(aj rfl ik (gz (O.p 4) hl2))) ?_;refine bx 6 [] rfl (fun w=>(aa rfl dW)) ?_;refine cP 7 [] rfl (by exact⟨[_],O⟩) (fun w hT=>have O:=hT.sat;(ld rfl)) ?_;intro a I;refine aD 8 (by kernel_rfl) ?_;refine eL I rfl rfl rfl aA jN rfl rfl rfl (by simp[Value.oneCell']) O ?_;clear I a O;intro A98 w O;intro a I;refine⟨.inr fun _=>(by exact⟨[_,_],O⟩),?_⟩;refine aD 9 (by kernel_rfl) ?_;refine eA I rfl rfl rfl rfl aA jN rfl (O.p 1) (O.rd.src aA (by simp[Value.oneCell'])) (by omega) (by omega) ?_
       clear I a O;intro A99 c99 w hc99 O;intro a I;refine⟨.inr fun _=>(by exact⟨[_,_],O⟩),?_⟩;refine P1 10 [] I rfl (fun w=>(fI (I.ev rfl) (I.ev rfl) fv fQ (by omega) (by omega))) ?_;clear I a;intro a I;refine aD 11 (by kernel_rfl) ?_;refine Hx (i:=s.rep.toNat) ⟨A99,c99,(dq ((ps.map PL.d).take i) d (min d.vec.length 16) k s.rep.toNat).map Prod.snd++[s.hi]⟩ I rfl rfl (by simp) rfl (by simp[Loc.v]) ik fQ (O.p 6) hl2 ?_;clear O;intro w O;refine⟨.inl rfl,?_⟩;refine ah (by kernel_rfl) ?_ _;refine rE 4 I ?_;clear I a;refine u1 2 (ad rfl rfl) ?_;intro a I;replace I:=I.kp [0,2,3,4,5,7] rfl;have hS2:=jx (f:=Loc.eP 3) hl2 (l':=⟨A99,c99,(dq ((ps.map PL.d).take i) d (min d.vec.length 16) k s.rep.toNat).map Prod.snd++[s.hi]⟩) (fW ((O.p 3).p 2) (by simp) (by simp))
       have hst:=fun q=>eZ (T:=((ps.map PL.d).take i)) (j:=min d.vec.length 16) hs q
       refine⟨d.ab.length-(k+1),by omega,k+1,_,_,I,(((((hS2.p 6).p 1).p 2).p 4).p 5).cW [_,_,_,_,_],by omega,?_,?_,rfl⟩
       ·refine hT1.set ?_ fun q hq hne=>?_
        ·rw[hst,if_pos (by omega)];simp
        ·rw[hst,if_neg (by omega),List.append_nil]
       ·refine hT2.set ?_ fun q hq hne=>?_
        ·rw[hst,if_pos (by omega)];simp
        ·rw[hst,if_neg (by omega),List.append_nil]
      ·intro h77;refine uO 9 ?_;refine u1 2 (ad rfl rfl) ?_;intro a I;replace I:=I.kp [0,2,3,4,5,7] rfl;have hst:=fun q=>eZ (T:=((ps.map PL.d).take i)) (j:=min d.vec.length 16) hs q
       refine⟨d.ab.length-(k+1),by omega,k+1,l1,l2,I,O.drop,by omega,?_,?_,rfl⟩
       ·exact hT1.congr fun q hq=>by rw[hst,if_neg (by omega),List.append_nil]
       ·exact hT2.congr fun q hq=>by rw[hst,if_neg (by omega),List.append_nil]
     ·intro h73;refine uO 13 ?_;refine u1 2 (ad rfl rfl) ?_;intro a I;replace I:=I.kp [0,2,3,4,5,7] rfl;have hst:=fun q=>eZ (T:=((ps.map PL.d).take i)) (j:=min d.vec.length 16) hs q
      refine⟨d.ab.length-(k+1),by omega,k+1,l1,l2,I,O.drop,by omega,?_,?_,rfl⟩
      ·exact hT1.congr fun q hq=>by rw[hst,if_neg (by omega),List.append_nil]
      ·exact hT2.congr fun q hq=>by rw[hst,if_neg (by omega),List.append_nil]
    ·intro h60;intro a I;dsimp only at h60;refine rO 11 I ?_;clear I a;refine u1 2 (ad rfl rfl) ?_;intro a I;replace I:=I.kp [0,2,3,4,5] rfl;refine⟨ps.length-(i+1),by omega,i+1,l1,l2,I,O,by omega,?_,?_,rfl⟩
     ·rw[ay (kU hp)];exact hT1.congr fun r hr=>by rw[←ow hr (show d.ab.length≤k by omega)]
     ·rw[ay (kU hp)];exact hT2.congr fun r hr=>by rw[←ow hr (show d.ab.length≤k by omega)]
  ·intro h24;intro a I;dsimp only at h24;obtain rfl:j=min d.vec.length 16:=by omega
   refine rO 18 I ?_;clear I a;intro a I;refine wp_loop_ghost (fun (mm:Nat) a w=>∃(k:Nat) (l1 l2:List (Loc Int)),Ag a 116 [(0,.slice (some A_p) (ps).length c),(2,.pointer (some ⟨b2,0,none⟩)),(3,.pointer (some ⟨b3,0,none⟩)),(4,.pointer (some ⟨b4,0,none⟩)),(5,.int .i64 ((i:Nat):Int)),(7,.int .i64 ((k:Nat):Int))]∧Sat W w ([dz 375 b3 l1,br (l1.map (Loc.eP 3)),dz 375 b4 l2,br (l2.map (Loc.eP 3)),dz 377 b2 (List.replicate 16 (⟨none,0,[]⟩:Loc Int))])∧(k≤d.ab.length)∧(dF l1 (fun r=>(dq ((ps.map PL.d).take i) d (min d.vec.length 16) k r).map Prod.fst))∧(dF l2 (fun r=>(dq ((ps.map PL.d).take i) d (min d.vec.length 16) k r).map Prod.snd))∧mm=d.ab.length-k) d.ab.length ?_ ?_
   ·replace I:=I.kp [0,2,3,4,5,7] rfl;exact⟨0,_,_,I,O,(by omega),(by exact hT1),(by exact hT2),by omega⟩
   intro m a w hI;clear O I;obtain⟨k,l1,l2,I,O,hk,hT1,hT2,rfl⟩:=hI;refine rC 6 I ?_;clear I a;refine u1 0 (ix rfl rfl fJ bo) ?_;refine u1 0 (aw rfl bX) ?_;refine u1 0 (aj rfl xj (bI (hR.sat O) (kJ hp 1 _ rfl))) ?_;refine u1 0 (ak rfl dk) ?_;refine aK 0 0 (aq rfl rfl) ?_ ?_
   ·intro h60;intro a I;dsimp only at h60;refine rO 11 I ?_;clear I a;refine u1 0 (ix rfl rfl fJ bo) ?_;refine u1 0 (aw rfl bX) ?_;refine u1 1 (aj rfl xj (bI (hR.sat O) (kJ hp 1 _ rfl))) ?_;obtain⟨ca_p,rfl⟩:∃q,ca=some q:=(hpc.sat O).ao (by omega);obtain⟨s,hs⟩:∃zz_,d.ab[k]?=some zz_:=⟨_,List.getElem?_eq_getElem (by omega)⟩;refine u1 0 (ix rfl rfl dk cL) ?_;refine u1 0 (ax (cs:=gm s) rfl j6 cL (fun j u e=>bI (hpc.sat O) (dD hs j u e))) ?_;refine uN mn O ?_;clear O;intro b8 w O;refine uW (vs:=[_,_,_]) (cs':=[_,_,_]) rfl rfl cL O ?_;clear O;intro w O;refine uO 4 ?_;refine u1 0 (aa rfl bT) ?_;refine u1 0 (ld rfl) ?_;refine aK 0 0 (dH rfl rfl) ?_ ?_
    ·intro h73;refine uO 1 ?_;refine u1 0 (aa rfl bT) ?_;refine u1 0 (ld rfl) ?_;refine aK 0 0 (aq rfl rfl) ?_ ?_
     ·intro h77;obtain⟨lA,lc,hl1⟩:=hT1.get (show s.rep.toNat<16 by omega);obtain⟨mA,mc,hl2⟩:=hT2.get (show s.rep.toNat<16 by omega);have hlen:=nK ((ps.map PL.d).take i) d (min d.vec.length 16) k s.rep.toNat;have hq1:((dq ((ps.map PL.d).take i) d (min d.vec.length 16) k s.rep.toNat).map Prod.fst).length≤100000000000:=by rw[List.length_map];omega
      have hq2:((dq ((ps.map PL.d).take i) d (min d.vec.length 16) k s.rep.toNat).map Prod.snd).length≤100000000000:=by rw[List.length_map];omega
      intro a I;replace O:Sat W w (cM 3 lA lc ((dq ((ps.map PL.d).take i) d (min d.vec.length 16) k s.rep.toNat).map Prod.fst)::_):=(O.p 2).dO (iG hl1);refine rO 5 I ?_;clear I a;intro a I;refine ja [11] (lq W [br ((l1.map (Loc.eP 3)).eraseIdx s.rep.toNat),a6 b8 (.cells #[.int .i64 s.rep,.int .i64 s.lo,.int .i64 s.hi] 219),dz 375 b3 l1,dz 375 b4 l2,br (l2.map (Loc.eP 3)),dz 377 b2 (List.replicate 16 (⟨none,0,[]⟩:Loc Int))]) (by kernel_rfl) ?_;replace O:=O.drew;refine P1 0 [] I rfl (fun w=>(aa (I.ev rfl) bT)) ?_;clear I a
      refine cP 1 [] rfl (by exact⟨[_],O⟩) (fun w hT=>have O:=hT.sat;(ld rfl)) ?_;refine bx 2 [] rfl (fun w=>(aa rfl bT)) ?_;refine cP 3 [] rfl (by exact⟨[_],O⟩) (fun w hT=>have O:=hT.sat;(ld rfl)) ?_;refine bx 4 [] rfl (fun w=>(iA rfl rfl fv fQ)) ?_;refine cP 5 [] rfl (by exact⟨[_],O⟩) (fun w hT=>have O:=hT.sat;(aj rfl ik (gz (O.p 2) hl1))) ?_;refine bx 6 [] rfl (fun w=>(aa rfl dS)) ?_;refine cP 7 [] rfl (by exact⟨[_],O⟩) (fun w hT=>have O:=hT.sat;(ld rfl)) ?_;intro a I;refine aD 8 (by kernel_rfl) ?_;refine eL I rfl rfl rfl aA jN rfl rfl rfl (by simp[Value.oneCell']) O ?_;clear I a O;intro A87 w O;intro a I;refine⟨.inr fun _=>(by exact⟨[_,_],O⟩),?_⟩;refine aD 9 (by kernel_rfl) ?_;refine eA I rfl rfl rfl rfl aA jN rfl (O.p 1) (O.rd.src aA (by simp[Value.oneCell'])) (by omega) (by omega) ?_
      clear I a O;intro A88 c88 w hc88 O;intro a I;refine⟨.inr fun _=>(by exact⟨[_,_],O⟩),?_⟩;refine P1 10 [] I rfl (fun w=>(fI (I.ev rfl) (I.ev rfl) fv fQ (by omega) (by omega))) ?_;clear I a;intro a I;refine aD 11 (by kernel_rfl) ?_;refine Hx (i:=s.rep.toNat) ⟨A88,c88,(dq ((ps.map PL.d).take i) d (min d.vec.length 16) k s.rep.toNat).map Prod.fst++[s.lo]⟩ I rfl rfl (by simp) rfl (by simp[Loc.v]) ik fQ (O.p 4) hl1 ?_;clear O;intro w O;replace O:=jx (f:=Loc.eP 3) hl1 (l':=⟨A88,c88,(dq ((ps.map PL.d).take i) d (min d.vec.length 16) k s.rep.toNat).map Prod.fst++[s.lo]⟩) (fW ((O.p 3).p 2) (by simp) (by simp));replace O:=(O.p 2).drop;replace O:Sat W w (cM 3 mA mc ((dq ((ps.map PL.d).take i) d (min d.vec.length 16) k s.rep.toNat).map Prod.snd)::_):=(O.p 4).dO (iG hl2);refine⟨.inl rfl,?_⟩
      refine ah (by kernel_rfl) ?_ _;refine rE 1 I ?_;clear I a;intro a I;refine ja [11] (lq W [br ((l2.map (Loc.eP 3)).eraseIdx s.rep.toNat),br ((l1.set s.rep.toNat ⟨A88,c88,(dq ((ps.map PL.d).take i) d (min d.vec.length 16) k s.rep.toNat).map Prod.fst++[s.lo]⟩).map (Loc.eP 3)),dz 375 b3 (l1.set s.rep.toNat ⟨A88,c88,(dq ((ps.map PL.d).take i) d (min d.vec.length 16) k s.rep.toNat).map Prod.fst++[s.lo]⟩),a6 b8 (.cells #[.int .i64 s.rep,.int .i64 s.lo,.int .i64 s.hi] 219),dz 375 b4 l2,dz 377 b2 (List.replicate 16 (⟨none,0,[]⟩:Loc Int))]) (by kernel_rfl) ?_;replace O:=O.drew;refine P1 0 [] I rfl (fun w=>(aa (I.ev rfl) bT)) ?_;clear I a
      refine cP 1 [] rfl (by exact⟨[_],O⟩) (fun w hT=>have O:=hT.sat;(ld rfl)) ?_;refine bx 2 [] rfl (fun w=>(aa rfl bT)) ?_;refine cP 3 [] rfl (by exact⟨[_],O⟩) (fun w hT=>have O:=hT.sat;(ld rfl)) ?_;refine bx 4 [] rfl (fun w=>(iA rfl rfl fv fQ)) ?_;refine cP 5 [] rfl (by exact⟨[_],O⟩) (fun w hT=>have O:=hT.sat;(aj rfl ik (gz (O.p 4) hl2))) ?_;refine bx 6 [] rfl (fun w=>(aa rfl dW)) ?_;refine cP 7 [] rfl (by exact⟨[_],O⟩) (fun w hT=>have O:=hT.sat;(ld rfl)) ?_;intro a I;refine aD 8 (by kernel_rfl) ?_;refine eL I rfl rfl rfl aA jN rfl rfl rfl (by simp[Value.oneCell']) O ?_;clear I a O;intro A98 w O;intro a I;refine⟨.inr fun _=>(by exact⟨[_,_],O⟩),?_⟩;refine aD 9 (by kernel_rfl) ?_;refine eA I rfl rfl rfl rfl aA jN rfl (O.p 1) (O.rd.src aA (by simp[Value.oneCell'])) (by omega) (by omega) ?_
      clear I a O;intro A99 c99 w hc99 O;intro a I;refine⟨.inr fun _=>(by exact⟨[_,_],O⟩),?_⟩;refine P1 10 [] I rfl (fun w=>(fI (I.ev rfl) (I.ev rfl) fv fQ (by omega) (by omega))) ?_;clear I a;intro a I;refine aD 11 (by kernel_rfl) ?_;refine Hx (i:=s.rep.toNat) ⟨A99,c99,(dq ((ps.map PL.d).take i) d (min d.vec.length 16) k s.rep.toNat).map Prod.snd++[s.hi]⟩ I rfl rfl (by simp) rfl (by simp[Loc.v]) ik fQ (O.p 6) hl2 ?_;clear O;intro w O;refine⟨.inl rfl,?_⟩;refine ah (by kernel_rfl) ?_ _;refine rE 4 I ?_;clear I a;refine u1 2 (ad rfl rfl) ?_;intro a I;replace I:=I.kp [0,2,3,4,5,7] rfl;have hS2:=jx (f:=Loc.eP 3) hl2 (l':=⟨A99,c99,(dq ((ps.map PL.d).take i) d (min d.vec.length 16) k s.rep.toNat).map Prod.snd++[s.hi]⟩) (fW ((O.p 3).p 2) (by simp) (by simp))
      have hst:=fun q=>eZ (T:=((ps.map PL.d).take i)) (j:=min d.vec.length 16) hs q
      refine⟨d.ab.length-(k+1),by omega,k+1,_,_,I,(((((hS2.p 6).p 1).p 2).p 4).p 5).cW [_,_,_,_,_],by omega,?_,?_,rfl⟩
      ·refine hT1.set ?_ fun q hq hne=>?_
       ·rw[hst,if_pos (by omega)];simp
       ·rw[hst,if_neg (by omega),List.append_nil]
      ·refine hT2.set ?_ fun q hq hne=>?_
       ·rw[hst,if_pos (by omega)];simp
       ·rw[hst,if_neg (by omega),List.append_nil]
     ·intro h77;refine uO 9 ?_;refine u1 2 (ad rfl rfl) ?_;intro a I;replace I:=I.kp [0,2,3,4,5,7] rfl;have hst:=fun q=>eZ (T:=((ps.map PL.d).take i)) (j:=min d.vec.length 16) hs q
      refine⟨d.ab.length-(k+1),by omega,k+1,l1,l2,I,O.drop,by omega,?_,?_,rfl⟩
      ·exact hT1.congr fun q hq=>by rw[hst,if_neg (by omega),List.append_nil]
      ·exact hT2.congr fun q hq=>by rw[hst,if_neg (by omega),List.append_nil]
    ·intro h73;refine uO 13 ?_;refine u1 2 (ad rfl rfl) ?_;intro a I;replace I:=I.kp [0,2,3,4,5,7] rfl;have hst:=fun q=>eZ (T:=((ps.map PL.d).take i)) (j:=min d.vec.length 16) hs q
     refine⟨d.ab.length-(k+1),by omega,k+1,l1,l2,I,O.drop,by omega,?_,?_,rfl⟩
     ·exact hT1.congr fun q hq=>by rw[hst,if_neg (by omega),List.append_nil]
     ·exact hT2.congr fun q hq=>by rw[hst,if_neg (by omega),List.append_nil]
   ·intro h60;intro a I;dsimp only at h60;refine rO 11 I ?_;clear I a;refine u1 2 (ad rfl rfl) ?_;intro a I;replace I:=I.kp [0,2,3,4,5] rfl;refine⟨ps.length-(i+1),by omega,i+1,l1,l2,I,O,by omega,?_,?_,rfl⟩
    ·rw[ay (kU hp)];exact hT1.congr fun r hr=>by rw[←ow hr (show d.ab.length≤k by omega)]
    ·rw[ay (kU hp)];exact hT2.congr fun r hr=>by rw[←ow hr (show d.ab.length≤k by omega)]
 ·intro h14;obtain rfl:i=ps.length:=by omega
  intro a I;rw[List.take_of_length_le (by simp)]at hT1 hT2;refine rO 10 I ?_;clear I a;refine uN wi O ?_;clear O;intro b9 w O;refine uO 9 ?_;intro a I;refine wp_loop_ghost (fun (mm:Nat) a w=>∃(r:Nat) (l3:List (Loc Int)),Ag a 116 [(2,.pointer (some ⟨b2,0,none⟩)),(3,.pointer (some ⟨b3,0,none⟩)),(4,.pointer (some ⟨b4,0,none⟩)),(9,.pointer (some ⟨b9,0,none⟩)),(10,.int .i64 ((r:Nat):Int))]∧Sat W w ([dz 377 b9 l3,br (l3.map (Loc.eP 3)),dz 375 b3 l1,br (l1.map (Loc.eP 3)),dz 375 b4 l2,br (l2.map (Loc.eP 3)),dz 377 b2 (List.replicate 16 (⟨none,0,[]⟩:Loc Int))])∧(r≤16)∧(dF l3 (wW (ps.map PL.d) r))∧mm=16-r) 16 ?_ ?_
  ·replace I:=I.kp [2,3,4,9,10] rfl;have hS0:=kX (Loc.eP 3) O (fun L' s=>s.aX 3 1) 16;have hS1:Sat W w [dz 377 b9 (List.replicate 16 (⟨none,0,[]⟩:Loc Int)),br ((List.replicate 16 (⟨none,0,[]⟩:Loc Int)).map (Loc.eP 3)),dz 375 b3 l1,br (l1.map (Loc.eP 3)),dz 375 b4 l2,br (l2.map (Loc.eP 3)),dz 377 b2 (List.replicate 16 (⟨none,0,[]⟩:Loc Int))]:=hS0.p 1;exact⟨0,_,I,hS1,(by omega),(by exact kj.congr fun r hr=>by simp[wW]),by omega⟩
  intro m a w hI;clear O I;obtain⟨r,l3,I,O,hr,hT3,rfl⟩:=hI;refine rC 4 I ?_;clear I a;refine aK 0 0 (aq rfl rfl) ?_ ?_
  ·intro h102;obtain⟨lA,lc,hl1⟩:=hT1.get (show r<16 by omega);obtain⟨mA,mc,hl2⟩:=hT2.get (show r<16 by omega);obtain⟨nA,nc,hl3⟩:=hT3.get (show r<16 by omega);have hrl:=Nat.le_trans (kg (ps.map PL.d) r) ht;refine uO 7 ?_;intro a I;refine bj [7,10] O (by kernel_rfl) ?_;replace O:=O.drew;refine rX [0,1] I ?_;clear I a;refine bx 2 [] rfl (fun w=>(iA rfl rfl fv fQ)) ?_;refine cP 3 [4] rfl (by exact⟨[],O⟩) (fun w hT=>have O:=hT.sat;(aj rfl ik (gz (O.p 2) hl1))) ?_;refine bx 5 [] rfl (fun w=>(iA rfl rfl fv fQ)) ?_;refine cP 6 [] rfl (by exact⟨[],O⟩) (fun w hT=>have O:=hT.sat;(aj rfl ik (gz (O.p 4) hl2))) ?_;refine bx 8 [] rfl (fun w=>(aa rfl hZ)) ?_;intro a I;refine aD 7 (by kernel_rfl) ?_
   refine eF I rfl rfl Ip rfl (yM _ _ _ _ _ _ _ (gq (ps.map PL.d) r) (kq (O.p 3) hl1) (kq (O.p 5) hl2) (List.length_map _) (List.length_map _) hrl) ?_;clear I a;rintro e w ⟨A112,c112,rfl,hT⟩;replace O:=O.au hT;clear hT;refine⟨_,rfl,?_⟩;intro a I;refine⟨.inl rfl,?_⟩;refine P1 9 [] I rfl (fun w=>(fI (I.ev rfl) (I.ev rfl) fv fQ (by omega) (by omega))) ?_;clear I a;intro a I;refine aD 10 (by kernel_rfl) ?_;refine Hx (i:=r) ⟨A112,c112,bF (ar (gq (ps.map PL.d) r))⟩ I rfl rfl (by simp) rfl rfl ik fQ (O.p 1) hl3 ?_;clear O;intro w O;refine⟨.inl rfl,?_⟩;refine ah (by kernel_rfl) ?_ _;refine rE 4 I ?_;clear I a;refine u1 2 (ad rfl rfl) ?_;intro a I;replace I:=I.kp [2,3,4,9,10] rfl;have hS2:=((O.p 2).dO (iG hl3)).drop
   have hS3:=jx (f:=Loc.eP 3) hl3 (l':=⟨A112,c112,bF (ar (gq (ps.map PL.d) r))⟩) (((hS2.p 1).p 1).p 2);refine⟨16-(r+1),by omega,r+1,_,I,hS3.p 1,by omega,?_,rfl⟩;exact hT3.set (Ct _ _).symm fun k hk hne=>C0 hne
  ·intro h102;obtain rfl:r=16:=by omega
   refine uO 8 ?_;intro a I;replace I:=I.kp [2,9] rfl;refine rC 2 I ?_;clear I a;refine u1 0 (ax (cs:=l3.map Loc.v) rfl ze (by rw[List.length_map,hT3.1];exact qk) (kI O)) ?_;intro a I;refine Gc (ls:=l3) I rfl rfl qk hT3.1 (by simp) (O.p 6) ?_;clear O;intro w O;refine rO 3 I ?_;clear I a;intro a I;refine gN I rfl (de (cs:=l3.map Loc.v) I rfl ze (by rw[List.length_map,hT3.1];exact qk) (kI O)) ?_;exact⟨l3,rfl,hT3.congr fun r hr=>if_pos hr,bY (O.p 2)⟩
theorem oG (W:World)(p:PL)(hp:p.ok W)(hlc:p.d.ab.length≤10000000000):Calls Tryz.prog 260 #[.agg #[.slice p.va p.d.vec.length p.vc,.slice p.ca p.d.ab.length p.cc]] W fun e w'=>∃ls:List (Loc Int),e=.returned (.agg (ls.map Loc.v).toArray)∧dF ls (fun r=>bF (aO p.d r))∧Sat W w' [br (ls.map (Loc.eP 3))]:=by
 refine bP Tryz.func260 [0] ?_;have O:=Sat.start W;refine uC 2 ?_;refine uB rfl O ?_;clear O;intro b1 w O;refine uN wi O ?_;clear O;intro b2 w O;refine uO 4 ?_;refine u1 0 (lS (cs:=[_,_]) rfl) ?_;intro a I;refine jf (vss:=[[_,_]]) I rfl rfl fJ pP rfl rfl rfl (by simp) rfl O ?_;clear I a O;intro A4 w O;refine uF rfl (Al _ _ _ [p] O.rd (fun q hq=>by simp at hq;subst hq;exact hp.sat O) (by simp) (by simp[cO];omega)) ?_;rintro e w ⟨ls,rfl,hT0,hT⟩;replace O:=O.au hT;clear hT;have hT1:dF ls (fun r=>bF (aO p.d r)):=hT0.congr fun r hr=>(by simp[gq,aO])
 intro a I;refine Gc (ls:=ls) (cs:=((List.replicate 16 (⟨none,0,[]⟩:Loc Int)).map Loc.v)) I rfl rfl qk hT1.1 (by simp) (O.p 2) ?_;clear O;intro w O;refine rO 3 I ?_;clear I a;intro a I;refine gN I rfl (de (cs:=ls.map Loc.v) I rfl ze (by rw[List.length_map,hT1.1];exact qk) (kI O)) ?_;exact⟨ls,rfl,hT1,bY O.qv⟩
theorem tp (W:World)(ls:List (Loc Int))(f:Nat→List bq)(hT:dF ls (fun r=>bF (f r)))(hc:∀r,can (f r))(hR:∀(r:Nat) (l:Loc Int),ls[r]?=some l→j2 W l.a l.c l.xs)(hb:∀r,r<16→(f r).length≤100000000000):Calls Tryz.prog 259 #[.agg (ls.map Loc.v).toArray] W fun e w'=>∃q:PL,e=.returned (.agg #[.slice q.va q.d.vec.length q.vc,.slice q.ca q.d.ab.length q.cc])∧q.d=fU f∧Sat W w' [cM 3 q.va q.vc q.d.vec,bH 219 q.ca q.cc q.d.ab]:=by
 refine bP Tryz.func259 [0] ?_;have O:=Sat.start W;refine uC 2 ?_;refine uB rfl O ?_;clear O;intro b1 w O;refine uN dK O ?_;clear O;intro b2 w O;refine uO 4 ?_;refine uN dK O ?_;clear O;intro b3 w O;refine uO 4 ?_;intro a I;refine Ki I rfl rfl rfl aA jN rfl (by decide) (by decide) O ?_;clear I a O;intro b8 w O;refine uO 15 ?_;intro a I
 refine wp_loop_ghost (fun (mm:Nat) a w=>∃(r:Nat) (Ac:Option Addr) (cc:Nat),Ag a 73 [(1,.pointer (some ⟨b1,0,none⟩)),(2,.pointer (some ⟨b2,0,none⟩)),(3,.pointer (some ⟨b3,0,none⟩)),(4,.slice (some ⟨b8,0,none⟩) 16 16),(5,.int .i64 (((cE (bn f) r):Nat):Int)),(6,.int .i64 ((r:Nat):Int))]∧Sat W w ([dz 377 b1 ls,a6 b3 (.cells #[.slice none 0 0,.slice Ac (((List.range r).flatMap (aP f))).length cc] 63),bH 219 Ac cc ((List.range r).flatMap (aP f)),a6 b8 (.cells (((List.range r).map (bn f)++List.replicate (16-r) 0).map (Value.int .i64)).toArray 3 (0,0)),a6 b2 (.cells #[.slice none 0 0,.slice none 0 0] 63)])∧(r≤16)∧mm=16-r) 16 ?_ ?_
 ·replace I:=I.kp [1,2,3,4,5,6] rfl;have hS1:Sat W w [dz 377 b1 ls,a6 b3 (.cells #[.slice none 0 0,.slice none ((List.range 0).flatMap (aP f)).length 0] 63),bH 219 none 0 ((List.range 0).flatMap (aP f)),a6 b8 (.cells (((List.range 0).map (bn f)++List.replicate (16-0) 0).map (Value.int .i64)).toArray 3 (0,0)),a6 b2 (.cells #[.slice none 0 0,.slice none 0 0] 63)]:=((((((O.aX 219 3).p 3).p 2).p 2).p 3).p 4);exact⟨0,none,0,I,hS1,(by omega),by omega⟩
 intro m a w hI;clear O I;obtain⟨r,Ac,cc,I,O,hr,rfl⟩:=hI;refine rC 4 I ?_;clear I a;refine aK 0 0 (aq rfl rfl) ?_ ?_
 ·intro h10;obtain⟨lA,lc,hl⟩:=hT.get (show r<16 by omega);have hrd:j2 W lA lc (bF (f r)):=hR r _ hl;have hcr:=hc r;have hbr:=hb r (by omega);have hpl:=jL (f r);have hcl:=qw hb r (by omega);refine uO 13 ?_;intro a I
  refine wp_loop_ghost (fun (mm:Nat) a w=>∃(q sz:Nat) (Ac:Option Addr) (cc:Nat),Ag a 73 [(1,.pointer (some ⟨b1,0,none⟩)),(2,.pointer (some ⟨b2,0,none⟩)),(3,.pointer (some ⟨b3,0,none⟩)),(4,.slice (some ⟨b8,0,none⟩) 16 16),(5,.int .i64 ((sz:Nat):Int)),(6,.int .i64 ((r:Nat):Int)),(7,.int .i64 (((2 * q):Nat):Int))]∧Sat W w ([dz 377 b1 ls,a6 b3 (.cells #[.slice none 0 0,.slice Ac ((((List.range r).flatMap (aP f))++(aQ ((f r).take q)).2.map (jO r))).length cc] 63),bH 219 Ac cc (((List.range r).flatMap (aP f))++(aQ ((f r).take q)).2.map (jO r)),a6 b8 (.cells (jS (bn f) r (aQ ((f r).take q)).1).toArray 3 (0,0)),a6 b2 (.cells #[.slice none 0 0,.slice none 0 0] 63)])∧(q≤(f r).length)∧(sz=if 0<(aQ ((f r).take q)).1 then r+1 else cE (bn f) r)∧mm=(f r).length-q) (f r).length ?_ ?_
  ·replace I:=I.kp [1,2,3,4,5,6,7] rfl;rw[yO (f:=(bn f)) (by omega)]at O
   have hS1:Sat W w [dz 377 b1 ls,a6 b3 (.cells #[.slice none 0 0,.slice Ac ((((List.range r).flatMap (aP f))++(aQ ((f r).take 0)).2.map (jO r))).length cc] 63),bH 219 Ac cc (((List.range r).flatMap (aP f))++(aQ ((f r).take 0)).2.map (jO r)),a6 b8 (.cells (jS (bn f) r (aQ ((f r).take 0)).1).toArray 3 (0,0)),a6 b2 (.cells #[.slice none 0 0,.slice none 0 0] 63)]:=by
    rw[List.take_zero,show (aQ []).2=[] from rfl,List.map_nil,List.append_nil];exact O
   exact⟨0,(cE (bn f) r),Ac,cc,I,hS1,(by omega),(by rfl),by omega⟩
  intro m a w hI;clear O I;obtain⟨q,sz,Ac,cc,I,O,hq,hsz,rfl⟩:=hI;refine rC 4 I ?_;clear I a;refine u1 1 (ad rfl rfl) ?_;refine u1 0 (aa rfl hZ) ?_;refine u1 0 (iA rfl rfl fv fQ) ?_;refine u1 0 (aj rfl ik (jl O hl)) ?_;refine u1 0 (ak rfl aA) ?_;refine aK 0 0 (aq rfl rfl) ?_ ?_
  ·intro h20;obtain⟨x,hx⟩:∃x,(f r)[q]?=some x:=⟨_,List.getElem?_eq_getElem (by omega)⟩;obtain⟨hx1,hx2⟩:=w3 hx;have hxe:=hcr.each x (List.mem_of_getElem? hx);intro a I;rw[dI]at hxe;have hgl:=lM ((f r).take q);rw[List.length_take]at hgl;have hcl2:(((List.range r).flatMap (aP f))++(aQ ((f r).take q)).2.map (jO r)).length≤r * 100000000000+q:=by rw[List.length_append,List.length_map];omega
   refine rO 10 I ?_;clear I a;refine u1 0 (aa rfl hZ) ?_;refine u1 0 (iA rfl rfl fv fQ) ?_;refine u1 1 (aj rfl ik (jl O hl)) ?_;obtain⟨lA_p,rfl⟩:∃q,lA=some q:=(hrd.sat O).ao (by omega);refine u1 0 (ix rfl rfl aA fO) ?_;refine u1 0 (aj rfl dE (eO (hrd.sat O) (aV hx1))) ?_;refine aK 0 0 (aY rfl rfl) ?_ ?_
   ·intro h30;refine uO 8 ?_;refine u1 0 (aa rfl hZ) ?_;refine u1 0 (iA rfl rfl fv fQ) ?_;refine u1 1 (aj rfl ik (jl O hl)) ?_;refine u1 0 (ad rfl rfl) ?_;refine u1 0 (ix rfl rfl aA fO) ?_;refine u1 0 (aj rfl dE (eO (hrd.sat O) (aV hx2))) ?_;refine u1 0 (sb rfl rfl) ?_;refine u1 0 (ix rfl rfl aA fO) ?_;intro a I;refine Jj (j:=r) I rfl (by rw[add_lit];simp) rfl dE fO rfl (O.p 3) (Am _) ?_;clear O;intro w O;rw[AR]at O;refine rO 4 I ?_;clear I a;refine u1 6 (ad rfl rfl) ?_;refine u1 2 (ad rfl rfl) ?_;intro a I;replace I:=I.kp [1,2,3,4,5,6,7] rfl;have hcg:=yw hcr (q+1);rw[ay hx]at hcg;have els:=wq hcg;rw[←ay hx]at els;rw[if_pos h30]at els;have e1:(aQ ((f r).take (q+1))).1=x.2:=by rw[els]
    have h0:(f r).take q=[]:=by
     cases hg:(f r).take q with
     | nil=>rfl
     | cons y t=>rw[hg]at hcg;have:=hcg.2.2.2.1 x (by simp);have:=hcg.1;have:=hcg.2.1;omega
    have e2:(aQ ((f r).take (q+1))).2=(aQ ((f r).take q)).2:=by rw[els,h0];rfl
    refine⟨(f r).length-(q+1),by omega,q+1,r+1,Ac,cc,?_,?_,by omega,?_,rfl⟩
    ·exact I
    ·rw[e1,e2,show x.2=x.2+1-1 from by omega];exact (((O.p 3).p 3).p 3)
    ·rw[e1,if_pos (by have:=hcr.each x (List.mem_of_getElem? hx);omega)]
   ·intro h30;refine uO 3 ?_;intro a I;refine bj [21,23] O (by kernel_rfl) ?_;replace O:=O.drew;refine P1 0 [] I rfl (fun w=>(aa (I.ev rfl) bX)) ?_;clear I a
    refine cP 1 [2,3] rfl (by exact⟨[],O⟩) (fun w hT=>have O:=hT.sat;(ld rfl)) ?_;refine bx 4 [] rfl (fun w=>(aa rfl hZ)) ?_;refine bx 5 [] rfl (fun w=>(iA rfl rfl fv fQ)) ?_;refine cP 6 [7] rfl (by exact⟨[],O⟩) (fun w hT=>have O:=hT.sat;(aj rfl ik (jl O hl))) ?_;refine bx 8 [] rfl (fun w=>(ix rfl rfl aA fO)) ?_;refine cP 9 [10] rfl (by exact⟨[],O⟩) (fun w hT=>have O:=hT.sat;(aj rfl dE (eO (hrd.sat O) (aV hx1)))) ?_;refine bx 11 [] rfl (fun w=>(aa rfl hZ)) ?_;refine bx 12 [] rfl (fun w=>(iA rfl rfl fv fQ)) ?_;refine cP 13 [14] rfl (by exact⟨[],O⟩) (fun w hT=>have O:=hT.sat;(aj rfl ik (jl O hl))) ?_;refine bx 15 [] rfl (fun w=>(ad rfl rfl)) ?_;refine bx 16 [] rfl (fun w=>(ix rfl rfl aA fO)) ?_;refine cP 17 [] rfl (by exact⟨[],O⟩) (fun w hT=>have O:=hT.sat;(aj rfl dE (eO (hrd.sat O) (aV hx2)))) ?_;refine bx 18 [] rfl (fun w=>(sb rfl rfl)) ?_
    intro a I;refine P1 19 [] I rfl (fun w=>(aM I rfl jw)) ?_;clear I a;intro a I;refine aD 20 (by kernel_rfl) ?_;refine vB (vss:=[[_,_,_]]) I rfl rfl rfl dk o5 rfl rfl rfl (by simp) rfl O ?_;clear I a O;intro A65 w O;intro a I;refine⟨.inr fun _=>(by exact⟨[_],O⟩),?_⟩;refine aD 21 (by kernel_rfl) ?_;refine eA I rfl rfl rfl rfl dk o5 rfl (O.p 3) (O.rd.src dk (by simp[Value.oneCell'])) (by omega) (by omega) ?_;clear I a O;intro A66 c66 w hc66 O;intro a I;refine⟨.inl rfl,?_⟩;refine P1 22 [] I rfl (fun w=>(aa (I.ev rfl) bX)) ?_;clear I a;intro a I;refine aD 23 (by kernel_rfl) ?_;refine HF (cs':=[_,_]) I rfl rfl rfl xj EU rfl (O.p 3) rfl rfl ?_;clear O;intro w O;refine⟨.inl rfl,?_⟩;refine ah (by kernel_rfl) ?_ _;refine rE 4 I ?_;clear I a;refine u1 2 (ad rfl rfl) ?_;intro a I
    replace I:=I.kp [1,2,3,4,5,6,7] rfl;have hcg:=yw hcr (q+1);rw[ay hx]at hcg;have els:=wq hcg;rw[←ay hx]at els;rw[if_neg h30]at els;have e1:(aQ ((f r).take (q+1))).1=(aQ ((f r).take q)).1:=by rw[els]
    have e2:(((List.range r).flatMap (aP f))++(aQ ((f r).take q)).2.map (jO r))++[jO r x]=((List.range r).flatMap (aP f))++(aQ ((f r).take (q+1))).2.map (jO r):=by rw[els,List.map_append,List.append_assoc];rfl
    have el:(((List.range r).flatMap (aP f))++(aQ ((f r).take q)).2.map (jO r)).length+1=(((List.range r).flatMap (aP f))++(aQ ((f r).take (q+1))).2.map (jO r)).length:=by rw[←e2,List.length_append (bs:=[jO r x])];rfl
    have hS2:=fW (O.p 1) (m:=(((List.range r).flatMap (aP f))++(aQ ((f r).take (q+1))).2.map (jO r)).length) (cs':=(((List.range r).flatMap (aP f))++(aQ ((f r).take (q+1))).2.map (jO r)).flatMap gm) el (by rw[←e2,List.flatMap_append];simp[gm,jO]);rw[el]at hS2;refine⟨(f r).length-(q+1),by omega,q+1,sz,A66,c66,I,?_,by omega,by rw[e1];exact hsz,rfl⟩;rw[e1];exact (((((hS2.p 5).p 5).p 2).p 3).p 5).cW [_,_,_,_,_]
  ·intro h20;refine uO 11 ?_;refine u1 2 (ad rfl rfl) ?_;intro a I;replace I:=I.kp [1,2,3,4,5,6] rfl;have eg:(f r).take q=f r:=List.take_of_length_le (by omega);have ec:(((List.range r).flatMap (aP f))++(aQ ((f r).take q)).2.map (jO r))=(List.range (r+1)).flatMap (aP f):=by rw[mq,qL,eg]
   have ev:(jS (bn f) r (aQ ((f r).take q)).1)=((List.range (r+1)).map (bn f)++List.replicate (16-(r+1)) 0).map (Value.int .i64):=by rw[eg];exact Ad (f:=(bn f)) (by omega)
   have es:sz=cE (bn f) (r+1):=by rw[hsz,eg];rfl
   rw[ec,ev]at O;rw[es]at I;exact⟨16-(r+1),by omega,r+1,Ac,cc,I,O,by omega,rfl⟩
 ·intro h10;obtain rfl:r=16:=by omega
  have hsz16:=mG (bn f) 16;refine uO 12 ?_;refine u1 0 (aH (oF rfl rfl aA fO (by omega) (by omega)) (show _=Value.slice (some ⟨b8,0,none⟩) (cE (bn f) 16) 16 from by rw[wF];rfl)) ?_;refine u1 0 (aa rfl cz) ?_;intro a I;refine mf (cs':=[_,_]) I rfl rfl ik fQ rfl (O.p 1) rfl rfl ?_;clear O;intro w O;refine rO 2 I ?_;clear I a;intro a I;replace I:=I.kp [2,3] rfl;refine rC 2 I ?_;clear I a;refine u1 0 (lS (cs:=[_,_]) rfl) ?_;refine uW (vs:=[_,_]) (cs':=[_,_]) rfl rfl bo (O.p 4) ?_;clear O;intro w O;refine uO 3 ?_;intro a I;refine gN I rfl (de (cs:=[_,_]) I rfl fu bo (by exact O.aF (xs:=[_,_]) rfl)) ?_;have hS2:=((O.p 4).GG (m:=16) (B7 (Nat.le_refl _)) (by decide)).shrink hsz16 (by simp);rw[Nat.mul_one,yz hsz16]at hS2
  refine⟨⟨some ⟨b8,0,none⟩,16,Ac,cc,fU f⟩,by simp[fU],rfl,?_⟩;have hS3:=fW hS2 (m:=((List.range (cE (bn f) 16)).map (bn f)).length) (by simp) rfl;exact oW ((hS3.p 4).p 1)
theorem lF (W:World)(p:PL)(hp:p.ok W)(hlc:p.d.ab.length≤10000000000):Calls Tryz.prog 227 #[.agg #[.slice p.va p.d.vec.length p.vc,.slice p.ca p.d.ab.length p.cc]] W fun e w'=>∃q:PL,e=.returned (.agg #[.slice q.va q.d.vec.length q.vc,.slice q.ca q.d.ab.length q.cc])∧q.d=gR p.d∧Sat W w' [cM 3 q.va q.vc q.d.vec,bH 219 q.ca q.cc q.d.ab]:=by
 refine bP Tryz.func227 [0] ?_;have O:=Sat.start W;refine uC 2 ?_;refine uB rfl O ?_;clear O;intro b1 w O;refine uN dK O ?_;clear O;intro b2 w O;refine uO 4 ?_;refine u1 0 (lS (cs:=[_,_]) rfl) ?_;refine uF rfl (oG _ p (hp.sat O) hlc) ?_;rintro e w ⟨ls,rfl,hT1,hT⟩;replace O:=O.au hT;clear hT;refine uF rfl (tp _ ls (aO p.d) hT1 (bw p.d) (fun r l h=>kq O h) (fun r hr=>by have:=cH (cN p.d r);have:=ek p.d r;unfold aO;omega)) ?_;rintro e w ⟨q,rfl,hq,hT⟩;replace O:Sat _ _ (_::_::_):=O.ag hT;clear hT;refine uW (vs:=[_,_]) (cs':=[_,_]) rfl rfl bo (O.p 3) ?_;clear O;intro w O;refine uO 3 ?_;intro a I;refine gN I rfl (de (cs:=[_,_]) I rfl fu bo (by exact O.aF (xs:=[_,_]) rfl)) ?_;exact⟨q,rfl,hq,oW ((O.p 2).p 2)⟩
theorem ni (W:World)(r n:Int)  : Calls Tryz.prog 263 #[.agg #[.int .i64 r,.int .i64 n]] W fun e w'=>e=.returned (.bool (dG r n))∧Sat W w' []:=by
 refine bP Tryz.func263 [0] ?_;have O:=Sat.start W;refine uC 2 ?_;refine uB rfl O ?_;clear O;intro b1 w O;refine uO 5 ?_;refine u1 0 (aa rfl bu) ?_;refine u1 0 (ld rfl) ?_;refine aK 0 0 (dH rfl rfl) ?_ ?_
 ·intro h5;refine uO 1 ?_;refine u1 0 (aa rfl bu) ?_;refine u1 0 (ld rfl) ?_;refine aK 0 0 (aq rfl rfl) ?_ ?_
  ·intro h9;refine uO 2 ?_;refine u1 0 (aa rfl bN) ?_;refine u1 0 (ld rfl) ?_;refine aK 0 0 (dH rfl rfl) ?_ ?_
   ·intro h14;refine uO 2 ?_;refine u1 0 (aa rfl bN) ?_;refine u1 0 (ld rfl) ?_;refine u1 5 (dU rfl rfl) ?_;refine aS ?_;refine⟨?_,O.nil⟩;unfold dG
    congr 2
    rw[Bool.eq_iff_iff];simp only[Bool.and_eq_true,decide_eq_true_eq,Bool.false_eq_true,false_iff];omega
   ·intro h14;refine uO 10 ?_;refine aS ?_;refine⟨?_,O.nil⟩;unfold dG
    congr 2
    rw[Bool.eq_iff_iff];simp only[Bool.and_eq_true,decide_eq_true_eq,Bool.false_eq_true,false_iff];omega
  ·intro h9;refine uO 15 ?_;refine aS ?_;refine⟨?_,O.nil⟩;unfold dG
   congr 2
   rw[Bool.eq_iff_iff];simp only[Bool.and_eq_true,decide_eq_true_eq,Bool.false_eq_true,false_iff];omega
 ·intro h5;refine uO 19 ?_;refine aS ?_;refine⟨?_,O.nil⟩;unfold dG
  congr 2
  rw[Bool.eq_iff_iff];simp only[Bool.and_eq_true,decide_eq_true_eq,Bool.false_eq_true,false_iff];omega
theorem gk (W:World)(x y:Int)  : Calls Tryz.prog 281 #[.int .i64 x,.int .i64 y] W fun e w'=>e=.returned (.int .i64 (gb x y))∧Sat W w' []:=by
 refine bP Tryz.func281 [0,1] ?_;have O:=Sat.start W;refine uC 10 ?_;refine aK 0 0 (aq rfl rfl) ?_ ?_
 ·intro h7;refine uO 10 ?_;refine aS ?_;refine⟨?_,O⟩;unfold gb
  (repeat' split)<;>rfl
 ·intro h7;refine uO 10 ?_;refine aK 0 0 (dx rfl rfl) ?_ ?_
  ·intro h10;refine uO 10 ?_;refine aS ?_;refine⟨?_,O⟩;unfold gb
   (repeat' split)<;>first | rfl | omega
  ·intro h10;refine uO 11 ?_;refine aS ?_;refine⟨?_,O⟩;unfold gb
   (repeat' split)<;>first | rfl | omega
theorem uG (W:World)(p:PL)(r n:Int)(hp:p.ok W)(hlv:p.d.vec.length≤1000000000000)(hlc:p.d.ab.length≤1000000000000):Calls Tryz.prog 271 #[.agg #[.slice p.va p.d.vec.length p.vc,.slice p.ca p.d.ab.length p.cc],.agg #[.int .i64 r,.int .i64 n]] W fun e w'=>e=.returned (.bool (hasB p.d r n))∧Sat W w' []:=by
 refine bP Tryz.func271 [0,1] ?_;have O:=Sat.start W;obtain⟨va,vc,ca,cc,d⟩:=p;have hpv:j2 W va vc d.vec:=hp.vec;have hpc:gF W ca cc d.ab:=hp.ab;intro a I;dsimp only at hlv hlc I ⊢;refine rC 2 I ?_;clear I a;refine uB rfl O ?_;clear O;intro b2 w O;refine uB rfl O ?_;clear O;intro b3 w O;refine uO 6 ?_;refine u1 0 (lS (cs:=[_,_]) rfl) ?_;refine uF rfl (ni _ r n) ?_;rintro e w ⟨rfl,hT⟩;replace O:Sat _ _ _:=O.ag hT;clear hT;generalize h8:(dG r n)=bb;cases bb
 ·refine u1 10 (aI rfl) ?_;refine aS ?_;refine⟨?_,O.nil⟩;rw[hasB,h8];rfl
 ·refine u1 7 (aI rfl) ?_;intro a I;refine cD (fun w'=>Sat _ w' _) (by kernel_rfl) (by kernel_rfl) O.drew ?_;refine Q1 0 I (fun w O=>(aa (I.ev rfl) bu)) ?_;clear I a;refine bc 0 (fun w O=>(ld rfl)) ?_;refine bc 0 (fun w O=>(aa rfl cz)) ?_;refine bc 0 (fun w O=>(ld rfl)) ?_;refine bc 0 (fun w O=>(ak rfl aA)) ?_;intro a I;refine K.rn I rfl rfl rfl (fun w O=>(aq (I.ev rfl) (I.ev rfl))) ?_ ?_
  ·clear I a;intro h15;have hdot:=h8;intro a I;unfold dG at hdot;simp only[Bool.and_eq_true,decide_eq_true_eq]at hdot;refine rQ 1 I ?_;clear I a;refine bc 0 (fun w O=>(aa rfl bN)) ?_;refine bc 0 (fun w O=>(ld rfl)) ?_;refine bc 0 (fun w O=>(aa rfl cz)) ?_;refine bc 0 (fun w O=>(ld rfl)) ?_;refine bc 0 (fun w O=>(aa rfl bu)) ?_;refine bc 0 (fun w O=>(ld rfl)) ?_;obtain⟨va_p,rfl⟩:∃q,va=some q:=(hpv.sat O).ao (by omega);obtain⟨v,hv⟩:∃zz_,d.vec[r.toNat]?=some zz_:=⟨_,List.getElem?_eq_getElem (by omega)⟩;refine bc 0 (fun w O=>(ix rfl rfl aA fO)) ?_;refine bc 0 (fun w O=>(aj rfl dE (eO (hpv.sat O) (aV hv)))) ?_;intro a I;refine K.lx I (aL I rfl rfl rfl) rfl rfl (fun w O=>(dU (I.ev rfl) (I.ev rfl))) ?_ ?_
   ·clear I a;intro h25;refine uQ 1 ?_;intro a I;refine wpQuiet_nil ?_;clear O;intro w O;refine rE 9 I ?_;clear I a;refine aS ?_;have hv2:iC d.vec r n=true:=by unfold iC;rw[hv];simp;omega
    refine⟨?_,O.nil⟩;rw[hasB,h8,hv2];simp
   ·clear I a;intro h25;refine uQ 1 ?_;intro a I;refine wpQuiet_nil ?_;clear O;intro w O;refine rE 11 I ?_;clear I a;intro a I;refine wp_loop_ghost (fun (mm:Nat) a w=>∃(k:Nat),Ag a 58 [(2,.pointer (some ⟨b2,0,none⟩)),(3,.pointer (some ⟨b3,0,none⟩)),(5,.int .i64 ((k:Nat):Int))]∧Sat W w ([a6 b3 (.cells #[.int .i64 r,.int .i64 n] 214),a6 b2 (.cells #[.slice (some va_p) d.vec.length vc,.slice ca d.ab.length cc] 63)])∧(k≤d.ab.length)∧((d.ab.take k).any (fun s=>sP s r n)=false)∧mm=d.ab.length-k) d.ab.length ?_ ?_
    ·replace I:=I.kp [2,3,5] rfl;exact⟨0,I,O,(by omega),(by rfl),by omega⟩
    intro m a w hI;clear O I;obtain⟨k,I,O,hk,he,rfl⟩:=hI;refine rC 4 I ?_;clear I a;refine u1 0 (aa rfl bX) ?_;refine u1 0 (ld rfl) ?_;refine u1 0 (ak rfl dk) ?_;refine aK 0 0 (aq rfl rfl) ?_ ?_
    ·intro h31;refine uO 9 ?_;refine u1 0 (aa rfl bX) ?_;refine u1 1 (ld rfl) ?_;obtain⟨ca_p,rfl⟩:∃q,ca=some q:=(hpc.sat O).ao (by omega);obtain⟨s,hs⟩:∃zz_,d.ab[k]?=some zz_:=⟨_,List.getElem?_eq_getElem (by omega)⟩;refine u1 0 (ix rfl rfl dk cL) ?_;refine u1 0 (ax (cs:=gm s) rfl j6 cL (fun j u e=>bI (hpc.sat O) (dD hs j u e))) ?_;refine uN mn O ?_;clear O;intro b6 w O;refine uW (vs:=[_,_,_]) (cs':=[_,_,_]) rfl rfl cL O ?_;clear O;intro w O;refine uO 4 ?_;refine u1 0 (aa rfl bT) ?_;refine u1 0 (ld rfl) ?_;refine u1 0 (aa rfl bu) ?_;refine u1 0 (ld rfl) ?_;refine aK 0 0 (aY rfl rfl) ?_ ?_
     ·intro h43;refine uO 1 ?_;refine u1 0 (aa rfl dS) ?_;refine u1 0 (ld rfl) ?_;refine u1 0 (aa rfl bN) ?_;refine u1 0 (ld rfl) ?_;refine aK 0 0 (dU rfl rfl) ?_ ?_
      ·intro h49;refine uO 2 ?_;refine u1 0 (aa rfl bN) ?_;refine u1 0 (ld rfl) ?_;refine u1 0 (aa rfl dW) ?_;refine u1 0 (ld rfl) ?_;refine aK 0 0 (dU rfl rfl) ?_ ?_
       ·intro h56;refine uO 15 ?_;refine aS ?_;have hv2:iC d.vec r n=false:=by unfold iC;rw[hv];simp;omega
        have hsp:sP s r n=true:=by unfold sP;simp only[Bool.and_eq_true,decide_eq_true_eq];omega
        have hic:ky d.ab r n=true:=by rw[iy];exact List.any_eq_true.2 ⟨s,List.mem_of_getElem? hs,hsp⟩
        refine⟨?_,O.nil⟩;rw[hasB,h8,hic];simp
       ·intro h56;refine uO 9 ?_;refine u1 2 (ad rfl rfl) ?_;intro a I;replace I:=I.kp [2,3,5] rfl;have hsp:sP s r n=false:=by unfold sP;rw[Bool.eq_false_iff];simp only[ne_eq,Bool.and_eq_true,decide_eq_true_eq];omega
        refine⟨d.ab.length-(k+1),by omega,k+1,I,O.drop,by omega,?_,rfl⟩;rw[ay hs,List.any_append,he];simp[hsp]
      ·intro h49;refine uO 16 ?_;refine u1 2 (ad rfl rfl) ?_;intro a I;replace I:=I.kp [2,3,5] rfl;have hsp:sP s r n=false:=by unfold sP;rw[Bool.eq_false_iff];simp only[ne_eq,Bool.and_eq_true,decide_eq_true_eq];omega
       refine⟨d.ab.length-(k+1),by omega,k+1,I,O.drop,by omega,?_,rfl⟩;rw[ay hs,List.any_append,he];simp[hsp]
     ·intro h43;refine uO 22 ?_;refine u1 2 (ad rfl rfl) ?_;intro a I;replace I:=I.kp [2,3,5] rfl;have hsp:sP s r n=false:=by unfold sP;rw[Bool.eq_false_iff];simp only[ne_eq,Bool.and_eq_true,decide_eq_true_eq];omega
      refine⟨d.ab.length-(k+1),by omega,k+1,I,O.drop,by omega,?_,rfl⟩;rw[ay hs,List.any_append,he];simp[hsp]
    ·intro h31;refine uO 8 ?_;intro a I;replace I:=I.kp [] rfl;refine rC 6 I ?_;clear I a;refine aS ?_;have hv2:iC d.vec r n=false:=by unfold iC;rw[hv];simp;omega
     rw[List.take_of_length_le (by omega)]at he;refine⟨?_,O.nil⟩;rw[hasB,h8,hv2,iy,he];rfl
  ·clear I a;intro h15;refine uQ 11 ?_;intro a I;refine wpQuiet_nil ?_;clear O;intro w O;refine rE 11 I ?_;clear I a;intro a I;refine wp_loop_ghost (fun (mm:Nat) a w=>∃(k:Nat),Ag a 58 [(2,.pointer (some ⟨b2,0,none⟩)),(3,.pointer (some ⟨b3,0,none⟩)),(5,.int .i64 ((k:Nat):Int))]∧Sat W w ([a6 b3 (.cells #[.int .i64 r,.int .i64 n] 214),a6 b2 (.cells #[.slice va d.vec.length vc,.slice ca d.ab.length cc] 63)])∧(k≤d.ab.length)∧((d.ab.take k).any (fun s=>sP s r n)=false)∧mm=d.ab.length-k) d.ab.length ?_ ?_
   ·replace I:=I.kp [2,3,5] rfl;exact⟨0,I,O,(by omega),(by rfl),by omega⟩
   intro m a w hI;clear O I;obtain⟨k,I,O,hk,he,rfl⟩:=hI;refine rC 4 I ?_;clear I a;refine u1 0 (aa rfl bX) ?_;refine u1 0 (ld rfl) ?_;refine u1 0 (ak rfl dk) ?_;refine aK 0 0 (aq rfl rfl) ?_ ?_
   ·intro h31;refine uO 9 ?_;refine u1 0 (aa rfl bX) ?_;refine u1 1 (ld rfl) ?_;obtain⟨ca_p,rfl⟩:∃q,ca=some q:=(hpc.sat O).ao (by omega);obtain⟨s,hs⟩:∃zz_,d.ab[k]?=some zz_:=⟨_,List.getElem?_eq_getElem (by omega)⟩;refine u1 0 (ix rfl rfl dk cL) ?_;refine u1 0 (ax (cs:=gm s) rfl j6 cL (fun j u e=>bI (hpc.sat O) (dD hs j u e))) ?_;refine uN mn O ?_;clear O;intro b6 w O;refine uW (vs:=[_,_,_]) (cs':=[_,_,_]) rfl rfl cL O ?_;clear O;intro w O;refine uO 4 ?_;refine u1 0 (aa rfl bT) ?_;refine u1 0 (ld rfl) ?_;refine u1 0 (aa rfl bu) ?_;refine u1 0 (ld rfl) ?_;refine aK 0 0 (aY rfl rfl) ?_ ?_
    ·intro h43;refine uO 1 ?_;refine u1 0 (aa rfl dS) ?_;refine u1 0 (ld rfl) ?_;refine u1 0 (aa rfl bN) ?_;refine u1 0 (ld rfl) ?_;refine aK 0 0 (dU rfl rfl) ?_ ?_
     ·intro h49;refine uO 2 ?_;refine u1 0 (aa rfl bN) ?_;refine u1 0 (ld rfl) ?_;refine u1 0 (aa rfl dW) ?_;refine u1 0 (ld rfl) ?_;refine aK 0 0 (dU rfl rfl) ?_ ?_
      ·intro h56;refine uO 15 ?_;refine aS ?_;have hv2:iC d.vec r n=false:=by unfold iC;rw[List.getElem?_eq_none (by omega)]
       have hsp:sP s r n=true:=by unfold sP;simp only[Bool.and_eq_true,decide_eq_true_eq];omega
       have hic:ky d.ab r n=true:=by rw[iy];exact List.any_eq_true.2 ⟨s,List.mem_of_getElem? hs,hsp⟩
       refine⟨?_,O.nil⟩;rw[hasB,h8,hic];simp
      ·intro h56;refine uO 9 ?_;refine u1 2 (ad rfl rfl) ?_;intro a I;replace I:=I.kp [2,3,5] rfl;have hsp:sP s r n=false:=by unfold sP;rw[Bool.eq_false_iff];simp only[ne_eq,Bool.and_eq_true,decide_eq_true_eq];omega
       refine⟨d.ab.length-(k+1),by omega,k+1,I,O.drop,by omega,?_,rfl⟩;rw[ay hs,List.any_append,he];simp[hsp]
     ·intro h49;refine uO 16 ?_;refine u1 2 (ad rfl rfl) ?_;intro a I;replace I:=I.kp [2,3,5] rfl;have hsp:sP s r n=false:=by unfold sP;rw[Bool.eq_false_iff];simp only[ne_eq,Bool.and_eq_true,decide_eq_true_eq];omega
      refine⟨d.ab.length-(k+1),by omega,k+1,I,O.drop,by omega,?_,rfl⟩;rw[ay hs,List.any_append,he];simp[hsp]
    ·intro h43;refine uO 22 ?_;refine u1 2 (ad rfl rfl) ?_;intro a I;replace I:=I.kp [2,3,5] rfl;have hsp:sP s r n=false:=by unfold sP;rw[Bool.eq_false_iff];simp only[ne_eq,Bool.and_eq_true,decide_eq_true_eq];omega
     refine⟨d.ab.length-(k+1),by omega,k+1,I,O.drop,by omega,?_,rfl⟩;rw[ay hs,List.any_append,he];simp[hsp]
   ·intro h31;refine uO 8 ?_;intro a I;replace I:=I.kp [] rfl;refine rC 6 I ?_;clear I a;refine aS ?_;have hv2:iC d.vec r n=false:=by unfold iC;rw[List.getElem?_eq_none (by omega)]
    rw[List.take_of_length_le (by omega)]at he;refine⟨?_,O.nil⟩;rw[hasB,h8,hv2,iy,he];rfl
end Go.Proofs.YtkjabaihpkbfhaaGreat.Wk
