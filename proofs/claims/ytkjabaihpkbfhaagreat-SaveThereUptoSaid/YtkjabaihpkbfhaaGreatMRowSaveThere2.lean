/- Texts of our own that a row leans on, put together. No condition of their own. -/
import Derived.Test.YtkjabaihpkbfhaaGreatMRowSaveThere1
set_option linter.unusedVariables false
set_option linter.unusedSimpArgs false
set_option maxRecDepth 100000
set_option maxHeartbeats 2000000
namespace Go.Proofs.YtkjabaihpkbfhaaGreat.Wk
open Go Go.RowKit Go.Proofs.YtkjabaihpkbfhaaGreat Go.Proofs.YtkjabaihpkbfhaaGreat.K Go.Proofs.YtkjabaihpkbfhaaGreat.T
def lX (l:List gk):aK:=gU ⟨[],l.map fun d=>⟨d.rep,d.num,d.num⟩⟩
def aS.dot (e:aS):gk:=⟨e.rep,e.num⟩
def gu (x y:Int):Int:=if x<y then -1 else if y<x then 1 else 0
def cx:List Int→Int
 | []=>0
 | a::l=>if a=0 then cx l else a
def i7 (s t:aN):Int:=cx [gu s.rep t.rep,gu s.lo t.lo,gu s.hi t.hi]
def dm:List aN→List aN→Int
 | [],[]=>0
 | [],_::_=>-1
 | _::_,[]=>1
 | s::l,t::m=>if i7 s t=0 then dm l m else i7 s t
def av (v:List Int)(r:Nat):Int:=match v[r]? with | some x=>x | none=>0
def rA (a b:aK):Int:=cx ((List.range 16).map (fun r=>gu (av a.vec r) (av b.vec r))++[dm a.ab b.ab])
def p4 (a b:aK):Int:=rA (gU a) (gU b)
theorem ew {x y:Int}:gu x y=0↔x=y:=by unfold gu;split<;>(try split)<;>omega
theorem cd (l m:List Int):cx (l++m)=if cx l=0 then cx m else cx l:=by
 induction l with
 | nil=>simp[cx]
 | cons a l ih =>
   rw[List.cons_append,cx,cx,ih]
   by_cases ha:a=0
   ·
    rw[if_pos ha,if_pos ha]
   ·
    rw[if_neg ha,if_neg ha,if_neg ha]
def iv (x:Int):Value:=.int .i64 x
def gY (r:bn):List Value:=[.int .i64 r.1,.int .i64 r.2]
def gi (s:aN):List Value:=[.int .i64 s.rep,.int .i64 s.lo,.int .i64 s.hi]
def p6 (d:gk):List Value:=[.int .i64 d.rep,.int .i64 d.num]
def mf (e:aS):List Value:=[.int .i64 e.rep,.int .i64 e.num,.string e.cw,.int .i64 e.qb]
structure PL where
 va:Option Addr
 vc:Nat
 ca:Option Addr
 cc:Nat
 d:aK
abbrev kb (w:World)(A:Option Addr)(c:Nat)(xs:List Int):Prop:=Rd w 1 (.slice A xs.length c) xs.length (xs.map (Value.int .i64))
abbrev gK (w:World)(A:Option Addr)(c:Nat)(xs:List aN):Prop:=Rd w 3 (.slice A xs.length c) xs.length (xs.flatMap gi)
abbrev ke (w:World)(A:Option Addr)(c:Nat)(xs:List bn):Prop:=Rd w 2 (.slice A xs.length c) xs.length (xs.flatMap gY)
abbrev fJ (w:World)(A:Option Addr)(c:Nat)(xs:List aS):Prop:=Rd w 4 (.slice A xs.length c) xs.length (xs.flatMap mf)
abbrev GA (w:World)(A:Option Addr)(c:Nat)(xs:List gk):Prop:=Rd w 2 (.slice A xs.length c) xs.length (xs.flatMap p6)
abbrev cN (e:Nat)(A:Option Addr)(c:Nat)(xs:List Int):As:=row e 1 (.slice A xs.length c) xs.length (xs.map (Value.int .i64))
abbrev bH (e:Nat)(A:Option Addr)(c:Nat)(xs:List aN):As:=row e 3 (.slice A xs.length c) xs.length (xs.flatMap gi)
abbrev eO (e:Nat)(A:Option Addr)(c:Nat)(xs:List bn):As:=row e 2 (.slice A xs.length c) xs.length (xs.flatMap gY)
abbrev je (e:Nat)(A:Option Addr)(c:Nat)(xs:List aS):As:=row e 4 (.slice A xs.length c) xs.length (xs.flatMap mf)
abbrev It (e:Nat)(A:Option Addr)(c:Nat)(xs:List gk):As:=row e 2 (.slice A xs.length c) xs.length (xs.flatMap p6)
theorem oD {α:Type}{enc:α→List Value}{k:Nat}(hk:∀x,(enc x).length=k):∀xs:List α,(xs.flatMap enc).length=xs.length * k
 | []=>by simp
 | x::xs=>by simp[oD hk xs,hk,Nat.add_mul,Nat.add_comm]
theorem ju {α:Type}{enc:α→List Value}{k:Nat}(hk:∀x,(enc x).length=k):∀ {xs:List α} {i:Nat} {x:α},xs[i]?=some x→∀j u,(enc x)[j]?=some u→(xs.flatMap enc)[i * k+j]?=some u
 | [],i,x,h,_,_,_=>by simp at h
 | y :: xs, 0, x, h, j, u, hj => by
   simp at h;subst h;have:=(List.getElem?_eq_some_iff.1 hj).1;rw[List.flatMap_cons,List.getElem?_append_left (by omega)];simpa using hj
 | y :: xs, i + 1, x, h, j, u, hj => by
   rw[List.flatMap_cons,List.getElem?_append_right (by rw[hk];rw[Nat.add_mul];omega),hk,show (i+1) * k+j-k=i * k+j from by rw[Nat.add_mul];omega];exact ju hk (by simpa using h) j u hj
theorem u5 (r:bn):(gY r).length=2:=rfl
theorem zD (r:aN):(gi r).length=3:=rfl
theorem tn (r:gk):(p6 r).length=2:=rfl
theorem Ed (r:aS):(mf r).length=4:=rfl
theorem eB {xs:List bn}{i:Nat}{x:bn}(h:xs[i]?=some x):∀j u,(gY x)[j]?=some u→(xs.flatMap gY)[i * 2+j]?=some u:=ju u5 h
theorem dB {xs:List aN}{i:Nat}{x:aN}(h:xs[i]?=some x):∀j u,(gi x)[j]?=some u→(xs.flatMap gi)[i * 3+j]?=some u:=ju zD h
theorem sU {xs:List gk}{i:Nat}{x:gk}(h:xs[i]?=some x):∀j u,(p6 x)[j]?=some u→(xs.flatMap p6)[i * 2+j]?=some u:=ju tn h
theorem cV {xs:List aS}{i:Nat}{x:aS}(h:xs[i]?=some x):∀j u,(mf x)[j]?=some u→(xs.flatMap mf)[i * 4+j]?=some u:=ju Ed h
theorem ER {α:Type}{enc:α→List Value}(h1:∀x,∀u∈enc x,u.oneCell'=true)(xs:List α):∀u∈xs.flatMap enc,u.oneCell'=true:=fun u hu=>by
 obtain⟨x,_,hx⟩:=List.mem_flatMap.1 hu;exact h1 x u hx
theorem qw (x:bn):∀u∈gY x,u.oneCell'=true:=fun u hu=>by simp[gY]at hu;rcases hu with rfl | rfl<;>rfl
theorem yD (xs:List Int):∀u∈xs.map (Value.int .i64),u.oneCell'=true:=fun u hu=>by
 obtain⟨x,_,rfl⟩:=List.mem_map.1 hu
 rfl
structure PL.ok (w:World)(p:PL):Prop where
 vec:kb w p.va p.vc p.d.vec
 ab:gK w p.ca p.cc p.d.ab
theorem PL.ok.sat {W w:World}{L:List As}{p:PL}(h:p.ok W)(s:Sat W w L):p.ok w:=⟨h.vec.sat s,h.ab.sat s⟩
structure RL where
 cw:ByteArray
 p:PL
def RL.d (r:RL):bS:=⟨r.cw,r.p.d⟩
def jb (r:RL):List Value:=[.string r.cw,.slice r.p.va r.p.d.vec.length r.p.vc,.slice r.p.ca r.p.d.ab.length r.p.cc]
theorem uD (r:RL):(jb r).length=3:=rfl
theorem cT {xs:List RL}{i:Nat}{x:RL}(h:xs[i]?=some x):∀j u,(jb x)[j]?=some u→(xs.flatMap jb)[i * 3+j]?=some u:=ju uD h
abbrev fO (w:World)(A:Option Addr)(c:Nat)(rs:List RL):Prop:=Rd w 3 (.slice A rs.length c) rs.length (rs.flatMap jb)
def om (p:PL):List Value:=[.slice p.va p.d.vec.length p.vc,.slice p.ca p.d.ab.length p.cc]
theorem EG (r:PL):(om r).length=2:=rfl
theorem lf {xs:List PL}{i:Nat}{x:PL}(h:xs[i]?=some x):∀j u,(om x)[j]?=some u→(xs.flatMap om)[i * 2+j]?=some u:=ju EG h
abbrev AG (w:World)(A:Option Addr)(c:Nat)(ps:List PL):Prop:=Rd w 2 (.slice A ps.length c) ps.length (ps.flatMap om)
structure jz where
 a:Option Addr
 c:Nat
 rs:List RL
def jz.d (r:jz):List bS:=r.rs.map RL.d
structure jz.ok (w:World)(r:jz):Prop where
 top:fO w r.a r.c r.rs
 each:∀x∈r.rs,x.p.ok w
theorem jz.ok.sat {W w:World}{L:List As}{r:jz}(h:r.ok W)(s:Sat W w L):r.ok w:=⟨h.top.sat s,fun x hx=>(h.each x hx).sat s⟩
structure HD where
 a:Option Addr
 c:Nat
 es:List aS
def HD.ok (w:World)(e:HD):Prop:=fJ w e.a e.c e.es
theorem HD.ok.sat {W w:World}{L:List As}{e:HD}(h:e.ok W)(s:Sat W w L):e.ok w:=Rd.sat h s
structure SL where
 e:HD
 p:PL
 r:jz
def SL.d (s:SL):iX:=⟨s.e.es,s.p.d,s.r.d⟩
def oC (s:SL):List Value:=[.slice s.e.a s.e.es.length s.e.c,.slice s.p.va s.p.d.vec.length s.p.vc,.slice s.p.ca s.p.d.ab.length s.p.cc,.slice s.r.a s.r.rs.length s.r.c]
structure SL.ok (w:World)(s:SL):Prop where
 e:s.e.ok w
 p:s.p.ok w
 r:s.r.ok w
theorem SL.ok.sat {W w:World}{L:List As}{s:SL}(h:s.ok W)(t:Sat W w L):s.ok w:=⟨h.e.sat t,h.p.sat t,h.r.sat t⟩
def PL.ch (ei es:Nat)(p:PL):As:=star (cN ei p.va p.vc p.d.vec) (bH es p.ca p.cc p.d.ab)
theorem PL.tZ {W w:World}{L:List As}{ei es:Nat}{p:PL}(s:Sat W w (p.ch ei es::L)):p.ok w:=⟨s.open_.rd,s.open_.qu.rd⟩
theorem PL.D2 {W w:World}{L:List As}{ei es:Nat}{A B:Option Addr}{c c':Nat}{d:aK}(s:Sat W w (cN ei A c d.vec::bH es B c' d.ab::L)):Sat W w ((⟨A,c,B,c',d⟩:PL).ch ei es::L):=s.shut
def jz.ch (er ei es:Nat)(r:jz):As:=star (row er 3 (.slice r.a r.rs.length r.c) r.rs.length (r.rs.flatMap jb)) (br (r.rs.map fun x=>x.p.ch ei es))
theorem u0 {W w:World}{L:List As}{ei es:Nat}{rs:List RL}(s:Sat W w (br (rs.map fun x=>x.p.ch ei es)::L)):∀x∈rs,x.p.ok w:=fun x hx=>by
 obtain⟨i,hi⟩:=List.mem_iff_getElem?.1 hx;have h:(rs.map fun x=>x.p.ch ei es)[i]?=some (x.p.ch ei es):=by rw[List.getElem?_map,hi];rfl
 exact PL.tZ (s.dJ h)
theorem jz.tZ {W w:World}{L:List As}{er ei es:Nat}{r:jz}(s:Sat W w (r.ch er ei es::L)):r.ok w:=⟨s.open_.rd,u0 s.open_.qu⟩
structure Loc (α:Type) where
 a:Option Addr
 c:Nat
 xs:List α
def rN {α:Type}(l:Loc α):List Value:=[.slice l.a l.xs.length l.c]
theorem Eh {α:Type}(l:Loc α):(rN l).length=1:=rfl
theorem FP {α:Type}{xs:List (Loc α)}{i:Nat}{x:Loc α}(h:xs[i]?=some x):∀j u,(rN x)[j]?=some u→(xs.flatMap rN)[i * 1+j]?=some u:=ju Eh h
def Loc.runs (w:World)(l:Loc bn):Prop:=ke w l.a l.c l.xs
theorem rb (a b:List bn):fq (a++b)=fq a++fq b:=by simp[fq]
theorem nF {a:List bn}{r c:bn}(h:gX r=some c):fq (a++[r])=fq a++[c]:=by rw[rb];simp[fq,h]
theorem ny {a:List bn}{r:bn}(h:gX r=none):fq (a++[r])=fq a:=by rw[rb];simp[fq,h]
theorem iN (l:List bn):(fq l).length≤l.length:=List.length_filterMap_le _ _
theorem DC {xs:List bn}{i:Nat}{x:bn}(h:xs[i]?=some x)(v:Int):(xs.flatMap gY).set (i * 2+1) (.int .i64 v)=(xs.set i (x.1,v)).flatMap gY:=by
 induction xs generalizing i with
 | nil=>simp at h
 | cons y xs ih =>
   cases i with
   | zero=>simp at h;subst h;rfl
   | succ i =>
     rw[List.flatMap_cons,List.set_append_right _ _ (by simp[gY];omega)];rw[show (i+1) * 2+1-(gY y).length=i * 2+1 from by simp[gY];omega,ih (by simpa using h)]
     rfl
theorem EH {xs:List bn}{x r:bn}(h:xs[xs.length-1]?=some x)(h0:0<xs.length)(hr:r.1≤x.2+1):gg xs r=xs.set (xs.length-1) (x.1,max x.2 r.2):=by
 rcases List.eq_nil_or_concat xs with rfl | ⟨o,y,rfl⟩
 ·
  simp at h0
 ·
  rw[List.concat_eq_append]at *;simp at h;subst h;rw[mB,if_pos hr];simp
theorem w0 {xs:List bn}{r:bn}(h:∀x,xs[xs.length-1]?=some x→0<xs.length→¬r.1≤x.2+1):gg xs r=xs++[r]:=by
 rcases List.eq_nil_or_concat xs with rfl | ⟨o,y,rfl⟩
 ·
  rfl
 ·
  rw[List.concat_eq_append]at *;rw[mB,if_neg (h y (by simp) (by simp))]
theorem yM (xs:List bn)(r:bn):(gg xs r).length≤xs.length+1:=by
 rcases List.eq_nil_or_concat xs with rfl | ⟨o,y,rfl⟩
 ·
  simp[gg]
 ·
  rw[List.concat_eq_append,mB];split<;>simp
theorem ox:∀(l out:List bn),(l.foldl gg out).length≤out.length+l.length
 | [],out=>by simp
 | r :: l, out => by
   have:=ox l (gg out r);have:=yM out r;rw[List.foldl_cons,List.length_cons];omega
theorem Dk {raw ys:List bn}(hp:ys.Perm (fq raw))(hs:ys.Pairwise (fun a b=>a.1≤b.1)):ys.foldl gg []=au raw:=by
 obtain⟨h1,h2⟩:=qa ys [] trivial (fun r hr=>n0 r (hp.mem_iff.1 hr)) (fun s hs=>by cases hs) hs;refine nM h1 fun n=>?_;rw[h2,←wo];constructor
 ·
  rintro (h | ⟨r,hr,h⟩)
  ·
   simp[bF]at h
  ·
   exact⟨r,hp.mem_iff.1 hr,h⟩
 ·
  rintro ⟨r,hr,h⟩;exact .inr ⟨r,hp.mem_iff.2 hr,h⟩
theorem Df {raw ys:List bn}(hp:ys.Perm (fq raw))(hs:ys.Pairwise (fun a b=>a.1≤b.1))(k:Nat):can ((ys.take k).foldl gg [])∧∀s∈(ys.take k).foldl gg [],∀r∈ys.drop k,s.1≤r.1:=by
 have hok:∀r∈ys,1≤r.1∧r.1≤r.2∧r.2≤gI:=fun r hr=>n0 r (hp.mem_iff.1 hr)
 have hsk:(ys.take k).Pairwise (fun a b=>a.1≤b.1):=hs.sublist (List.take_sublist k ys);obtain⟨h1,h2⟩:=qa (ys.take k) [] trivial (fun r hr=>hok r (List.mem_of_mem_take hr)) (fun s hs=>by cases hs) hsk;refine⟨h1,fun s hs2 r hr=>?_⟩
 have hcr:∀a∈ys.take k,∀b∈ys.drop k,a.1≤b.1:=by
  have:=hs;rw[←List.take_append_drop k ys,List.pairwise_append]at this;exact this.2.2
 have hm:bF ((ys.take k).foldl gg []) s.1:=⟨s,hs2,Int.le_refl _,(h1.each s hs2).2.1⟩;rcases (h2 s.1).1 hm with h | ⟨t,ht,h3,h4⟩
 ·
  simp[bF]at h
 ·
  -- s begins where one of those that were added begins,or behind
  have:∀(l out:List bn),(∀x∈out,∀r∈ys.drop k,x.1≤r.1)→(∀x∈l,∀r∈ys.drop k,x.1≤r.1)→∀x∈l.foldl gg out,∀r∈ys.drop k,x.1≤r.1:=by
   intro l
   induction l with
   | nil=>intro out ho _ x hx;exact ho x hx
   | cons y l ih =>
     intro out ho hl x hx;refine ih (gg out y) (fun z hz q hq=>?_) (fun z hz=>hl z (by simp[hz])) x hx;rcases List.eq_nil_or_concat out with rfl | ⟨o,v,rfl⟩
     ·
      simp[gg]at hz;subst hz;exact hl _ (by simp) q hq
     ·
      rw[List.concat_eq_append,mB]at hz
      split at hz
      ·
       rcases List.mem_append.1 hz with hz | hz
       ·
        exact ho z (by simp[hz]) q hq
       ·
        simp at hz;subst hz;exact ho v (by simp) q hq
      ·
       rcases List.mem_append.1 hz with hz | hz
       ·
        exact ho z (by simpa using hz) q hq
       ·
        simp at hz;subst hz;exact hl _ (by simp) q hq
  exact this (ys.take k) [] (fun x hx=>by cases hx) hcr s hs2 r hr
theorem cH (l:List bn):(au l).length≤l.length:=by
 have hi:∀(l:List bn) (r:bn),(pT r l).length≤l.length+1:=by
  intro l
  induction l with
  | nil=>intro r;simp[pT]
  | cons x l ih =>
    intro r;rw[pT]
    split
    ·
     simp
    ·
     split
     ·
      have:=ih r;simp;omega
     ·
      have:=ih (min r.1 x.1,max r.2 x.2);simp;omega
 induction l with
 | nil=>simp[au]
 | cons r l ih =>
   have e:au (r::l)=match gX r with | some c=>pT c (au l) | none=>au l:=rfl
   rw[e];cases gX r with
   | none=>simp only;simp;omega
   | some c=>simp only;have:=hi (au l) c;simp;omega
theorem gL {W w:World}{L:List As}{e sz n c:Nat}{A:Option Addr}{cs cs':List Value}{m:Nat}(h:Sat W w (row e sz (.slice A n c) n cs::L))(hn:n=m)(hc:cs=cs'):Sat W w (row e sz (.slice A m c) m cs'::L):=by subst hn hc;exact h
theorem pZ {A:Option Addr}{n m c:Nat}(h:n=m):Ending.returned (.slice A n c)=.returned (.slice A m c):=by rw[h]
theorem cu {W w:World}{L:List As}{A:As}(s:Sat W w (A::L)):Sat W w [A]:=Sat.de (M:=[A]) (L:=L) s [A]
theorem oW {W w:World}{L:List As}{A B:As}(s:Sat W w (A::B::L)):Sat W w [A,B]:=Sat.de (M:=[A,B]) (L:=L) s [A,B]
theorem nJ {W w:World}{L:List As}{A B C:As}(s:Sat W w (A::B::C::L)):Sat W w [A,B,C]:=Sat.de (M:=[A,B,C]) (L:=L) s [A,B,C]
theorem BU {W w:World}{L:List As}{A B C D:As}(s:Sat W w (A::B::C::D::L)):Sat W w [A,B,C,D]:=Sat.de (M:=[A,B,C,D]) (L:=L) s [A,B,C,D]
theorem wz {α:Type}{enc:α→List Value}{k:Nat}(hk:∀x,(enc x).length=k):∀(xs:List α) (i:Nat),(xs.flatMap enc).drop (i * k)=(xs.drop i).flatMap enc
 | xs,0=>by simp
 | [],i+1=>by simp
 | x :: xs, i + 1 => by
   rw[List.flatMap_cons,List.drop_append,List.drop_of_length_le (by rw[hk,Nat.add_mul];omega),List.nil_append,hk,show (i+1) * k-k=i * k from by rw[Nat.add_mul];omega,wz hk xs i]
   rfl
theorem FN {w:World}{A:Option Addr}{c:Nat}{ns:List bn}(h:ke w A c ns)(h1:1≤ns.length):Rd w 2 (.slice (ja A c 2 1) (ns.length-1) (c-1)) (ns.length-1) ((ns.drop 1).flatMap gY):=by
 have h2:=Rd.Gy h 1 h1;rwa[wz u5 ns 1]at h2
theorem pM:∀(l:List bn) (next:Int),(lz next l).length≤l.length+1
 | [],next=>by unfold lz;split<;>simp
 | r :: l, next => by
   have:=pM l (r.2+1);rw[lz,List.length_append,List.length_cons]
   split<;>simp<;>omega
theorem lP (l:List bn):(aR l).2.length≤l.length:=by
 cases l with
 | nil=>simp[aR]
 | cons r l=>rw[gf];split<;>simp
theorem Bi (W:World)(r:bn)  : Calls Tryz.prog 285 #[.agg #[.int .i64 r.1,.int .i64 r.2]] W fun e w'=>e=.returned (.tuple #[.agg #[.int .i64 (max r.1 1),.int .i64 (min r.2 1000000000)],.bool (decide (max r.1 1≤min r.2 1000000000))])∧Sat W w' []:=by
 refine bP Tryz.func285 [0] ?_;have O:=Sat.start W;refine uC 2 ?_;refine uB rfl O ?_;clear O;intro b1 w O;refine uN pr O ?_;clear O;intro b2 w O;refine uO 5 ?_;refine u1 0 (aa rfl gA) ?_;refine u1 0 (ld rfl) ?_;refine u1 0 (tf rfl rfl) ?_;refine u1 0 (aa rfl dR) ?_;refine u1 0 (ld rfl) ?_;refine u1 0 (w6 rfl rfl) ?_;refine u1 0 (aa rfl gA) ?_;intro a I;refine mM (cs':=[_,_]) I rfl rfl dE fS rfl (O.p 1) rfl rfl ?_;clear O;intro w O;refine o1 0 I (aa (I.ev rfl) dR) ?_;clear I a;intro a I;refine mM (cs':=[_,_]) I rfl rfl dE fS rfl O rfl rfl ?_;clear O;intro w O;refine rO 3 I ?_;clear I a;intro a I;refine GV (fun w'=>∃v,Sat W w' [aV b1 (.cells #[.int .i64 (max r.1 1),.int .i64 (min r.2 1000000000)] 357),aV b2 (.cells v 357)]) (by kernel_rfl) ?_;replace O:=O.drew
 refine K.h1 0 I pk rfl rfl rfl rfl (by kernel_rfl) (by kernel_rfl) (by kernel_rfl) (by exact⟨_,O⟩) (fun w hT=>let ⟨v,O⟩:=hT;(ax (cs:=[_,_]) (I.ev rfl) sw dx (by exact O.aE (xs:=[_,_]) rfl))) ?_;clear I a;intro a I;refine K.h1 1 I pk rfl rfl rfl rfl (by kernel_rfl) (by kernel_rfl) (by kernel_rfl) (by exact⟨_,O⟩) (fun w hT=>let ⟨v,O⟩:=hT;(aa (I.ev rfl) gA)) ?_;clear I a;intro a I;refine K.h1 2 I pk rfl rfl rfl rfl (by kernel_rfl) (by kernel_rfl) (by kernel_rfl) (by exact⟨_,O⟩) (fun w hT=>let ⟨v,O⟩:=hT;(an (I.ev rfl) dE (by exact O.cell rfl))) ?_;clear I a;intro a I;refine K.h1 3 I pk rfl rfl rfl rfl (by kernel_rfl) (by kernel_rfl) (by kernel_rfl) (by exact⟨_,O⟩) (fun w hT=>let ⟨v,O⟩:=hT;(aa (I.ev rfl) dR)) ?_;clear I a;intro a I
 refine K.h1 4 I pk rfl rfl rfl rfl (by kernel_rfl) (by kernel_rfl) (by kernel_rfl) (by exact⟨_,O⟩) (fun w hT=>let ⟨v,O⟩:=hT;(an (I.ev rfl) dE (by exact O.cell rfl))) ?_;clear I a;intro a I;refine K.h1 5 I pk rfl rfl rfl rfl (by kernel_rfl) (by kernel_rfl) (by kernel_rfl) (by exact⟨_,O⟩) (fun w hT=>let ⟨v,O⟩:=hT;(dT (I.ev rfl) (I.ev rfl))) ?_;clear I a;intro a I;refine JI 6 (by kernel_rfl) ?_;refine dr (vs:=[_,_]) (cs':=[_,_]) I rfl rfl rfl dx (by simp[Value.oneCell']) (O.p 1) rfl rfl ?_;clear O;intro w O;refine⟨(by exact⟨_,O.p 1⟩),?_⟩;refine K.h1 7 I pk rfl rfl rfl rfl (by kernel_rfl) (by kernel_rfl) (by kernel_rfl) (by exact⟨_,O.p 1⟩) (fun w hT=>let ⟨v,O⟩:=hT;(qq (I.ev rfl))) ?_;clear I a;intro a I;refine wpAnyH_done (by kernel_rfl) ?_ _;refine rE 2 I ?_;clear I a;intro a I
 refine eu I rfl (dj (cs:=[_,_]) I rfl sw dx (by exact O.aE (xs:=[_,_]) rfl)) (dn I rfl) ?_;exact⟨rfl,O.nil⟩
theorem CW (W w:World)(L:List As)(A:Option Addr)(c:Nat)(xs:List bn)(r:bn)(O:Sat W w (eO 357 A c xs::L))(hx2:∀x∈xs,0≤x.2∧x.2≤1000000000)(hl:xs.length≤1000000000000):Calls Tryz.prog 288 #[.slice A xs.length c,.agg #[.int .i64 r.1,.int .i64 r.2]] w fun e w'=>∃A' c',e=.returned (.slice A' (gg xs r).length c')∧Sat W w' (eO 357 A' c' (gg xs r)::L):=by
 refine bP Tryz.func288 [0,1] ?_;refine uC 2 ?_;refine uB rfl O ?_;clear O;intro b3 w O;refine uO 7 ?_;refine u1 4 (ak rfl bR) ?_;intro a I;refine cK (fun w'=>Sat _ w' _) (by kernel_rfl) (by kernel_rfl) O.drew ?_;refine rQ 1 I ?_;clear I a;intro a I;refine K.sr I rfl rfl rfl (fun w O=>(db (I.ev rfl) (I.ev rfl))) ?_ ?_
 ·clear I a;intro h9;refine uQ 1 ?_;refine bp 0 (fun w O=>(aa rfl gA)) ?_;refine bp 2 (fun w O=>(ld rfl)) ?_;refine bp 0 (fun w O=>(sb rfl rfl)) ?_;obtain⟨A_p,rfl⟩:∃q,A=some q:=(O.p 1).rd.ao (by omega);obtain⟨x,hx⟩:∃zz_,xs[((xs.length:Int)-1).toNat]?=some zz_:=⟨_,List.getElem?_eq_getElem (by omega)⟩;have hxb:=hx2 x (List.mem_of_getElem? hx);refine bp 0 (fun w O=>(ix rfl rfl bR dx)) ?_;refine bp 0 (fun w O=>(aw rfl dR)) ?_;refine bp 0 (fun w O=>(an rfl dE (bI (O.p 1).rd (eB hx 1 _ rfl)))) ?_;refine bp 0 (fun w O=>(ad rfl rfl)) ?_;intro a I;refine K.o0 I (aT I rfl rfl rfl) rfl rfl (fun w O=>(dT (I.ev rfl) (I.ev rfl))) ?_ ?_
  ·clear I a;intro h20;refine uQ 1 ?_;intro a I;refine wpQuiet_nil ?_;clear O;intro w O;refine rE 3 I ?_;clear I a;intro a I;refine fk (l1:=[_,_,_,_,_,_,_,_,_,_,_,_,_,_]) (l2:=[_]) rfl (by kernel_rfl) (by kernel_rfl) ?_;replace O:=O.drew;refine rT 2 I ?_;clear I a;refine eD 2 (sb rfl rfl) ?_;refine eD 0 (sb rfl rfl) ?_;refine eD 0 (ix rfl rfl bR dx) ?_;refine eD 0 (aw rfl dR) ?_;refine eD 0 (an rfl dE (bI (O.p 1).rd (eB hx 1 _ rfl))) ?_;refine eD 0 (aa rfl dR) ?_;refine eD 0 (ld rfl) ?_;refine eD 0 (tf rfl rfl) ?_;refine eD 0 (ix rfl rfl bR dx) ?_;refine eD 0 (aw rfl dR) ?_;intro a I;refine wpStill_nil ?_;refine JA (((xs.length:Int)-1).toNat * 2+1) I rfl (add_add _ _ _) rfl dE fS rfl (O.p 1) (by rw[oD u5];omega) ?_;clear O;intro w O;refine rO 2 I ?_;clear I a
   intro a I;replace I:=I.kp [0,3,4] rfl;refine rC 8 I ?_;clear I a;refine aU ?_;have ex:xs[xs.length-1]?=some x:=by rw[←hx];congr 1;omega
   have es:=EH (r:=r) ex (by omega) (by omega);have ei:((xs.length:Int)-1).toNat=xs.length-1:=by omega
   rw[ei,DC ex]at O;rw[es];exact⟨_,_,pZ List.length_set.symm,gL (O.p 1).drop List.length_set.symm rfl⟩
  ·clear I a;intro h20;refine uQ 1 ?_;intro a I;refine wpQuiet_nil ?_;clear O;intro w O;refine rE 7 I ?_;clear I a;refine u1 0 (lS (cs:=[_,_]) rfl) ?_;intro a I;refine jl (vss:=[[_,_]]) I rfl rfl bR iC rfl rfl rfl (by simp) rfl O ?_;clear I a O;intro A39 w O;intro a I;refine cZ I rfl rfl rfl bR iC rfl (O.p 2) (O.rd.src bR (qw r)) (by omega) (by omega) ?_;clear I a O;intro A40 c40 w hc40 O;refine uO 4 ?_;refine aU ?_;have ex:xs[xs.length-1]?=some x:=by rw[←hx];congr 1;omega
   have es:gg xs r=xs++[r]:=w0 fun y hy h0=>by rw[ex]at hy;cases hy;omega
   rw[es];exact⟨_,_,pZ (by simp),gL ((O.p 2).drop.p 1).drop (by simp) (by simp[gY])⟩
 ·clear I a;intro h9;refine uQ 12 ?_;intro a I;refine wpQuiet_nil ?_;clear O;intro w O;refine rE 7 I ?_;clear I a;refine u1 0 (lS (cs:=[_,_]) rfl) ?_;intro a I;refine jl (vss:=[[_,_]]) I rfl rfl bR iC rfl rfl rfl (by simp) rfl O ?_;clear I a O;intro A39 w O;intro a I;refine cZ I rfl rfl rfl bR iC rfl (O.p 2) (O.rd.src bR (qw r)) (by omega) (by omega) ?_;clear I a O;intro A40 c40 w hc40 O;refine uO 4 ?_;refine aU ?_;have es:gg xs r=xs++[r]:=w0 fun y hy h0=>by omega
  rw[es];exact⟨_,_,pZ (by simp),gL ((O.p 2).drop.p 1).drop (by simp) (by simp[gY])⟩
theorem xI (W:World)(A:Option Addr)(n c:Nat)(xs:List bn)(hR:Rd W 2 (.slice A n c) n (xs.flatMap gY))(hn:n=xs.length)(hl:xs.length≤1000000000000):Calls Tryz.prog 273 #[.slice A n c] W fun e w'=>∃A' c',e=.returned (.slice A' xs.length c')∧Sat W w' [eO 357 A' c' xs]:=by
 refine bP Tryz.func273 [0] ?_;have O:=Sat.start W;refine uC 9 ?_;refine nk 0 0 (z1 rfl rfl bR) ?_ ?_
 ·intro h4;refine uO 10 ?_;refine aU ?_;obtain rfl:A=none:=by simpa using h4
  obtain⟨h0,_⟩:=hR.nil;obtain rfl:=List.eq_nil_of_length_eq_zero (by omega:xs.length=0);exact⟨none,0,rfl,O.aW _ _⟩
 ·intro h4;refine uO 7 ?_;intro a I;refine y5 I rfl bR iC O ?_;clear I a O;intro A5 w O;refine uO 1 ?_;intro a I;refine cZ I rfl rfl rfl bR iC rfl O ((hR.sat O).src bR (ER qw xs)) (by omega) (by omega) ?_;clear I a O;intro A7 c7 w hc7 O;refine uO 4 ?_;refine aU ?_;simp only[Nat.zero_add,List.nil_append]at O ⊢;exact⟨_,_,pZ hn,gL O hn rfl⟩
end Go.Proofs.YtkjabaihpkbfhaaGreat.Wk
namespace Go.Proofs.YtkjabaihpkbfhaaGreat.K
open Go Go.RowKit Go.Proofs
theorem tE {α:Type}[Inhabited α]{enc:α→List Value}{k:Nat}(hk:∀x,(enc x).length=k)(d:Array α):(Go.Sort.flatK enc k d).toList=d.toList.flatMap enc:=by
 have key:∀l:List α,(Go.Sort.flatK enc k l.toArray).toList=l.flatMap enc:=by
  intro l
  have hl:∀l:List α,(l.flatMap enc).length=l.length * k:=by
   intro l
   induction l with
   | nil=>simp
   | cons x l ih=>rw[List.flatMap_cons,List.length_append,ih,hk,List.length_cons,Nat.add_mul];omega
  refine List.ext_getElem (by rw[hl];simp) fun i h1 h2=>?_;have hi:i<l.length * k:=by rw[hl]at h2;exact h2
  have k0 : 0 < k := by rcases Nat.eq_zero_or_pos k with h | h; · subst h; simp at hi
                        ·
                         exact h
  have e1:(Go.Sort.flatK enc k l.toArray).toList[i]=(enc l.toArray[i / k]!)[i % k]!:=by
   have h3:=Go.Sort.get_flatK enc k l.toArray i (by simpa using hi);rw[getElem!_pos _ i (by simpa using hi)]at h3;rw[←h3];simp
  rw[e1];have hq:i / k<l.length:=by rw[Nat.div_lt_iff_lt_mul k0];exact hi
  have hm:i % k<k:=Nat.mod_lt _ k0
  have at_:∀(l:List α) (q j:Nat) (hq:q<l.length) (hj:j<k),(l.flatMap enc)[q * k+j]?=some ((enc l[q])[j]'(by rw[hk];exact hj)):=by
   intro l
   induction l with
   | nil=>intro q j hq;simp at hq
   | cons x l ih =>
     intro q j hq hj;cases q with
     | zero=>rw[List.flatMap_cons,List.getElem?_append_left (by rw[hk];omega)];simp[hk,hj]
     | succ q =>
       rw[List.flatMap_cons,List.getElem?_append_right (by rw[hk,Nat.add_mul];omega),hk,show (q+1) * k+j-k=q * k+j from by rw[Nat.add_mul];omega];exact ih q j (by simpa using hq) hj
  have h4:=at_ l (i / k) (i % k) hq hm;have hdm:i / k * k+i % k=i:=by rw[Nat.mul_comm];exact Nat.div_add_mod i k
  rw[hdm,List.getElem?_eq_getElem h2]at h4;have h5:=Option.some.inj h4;rw[h5];have h6:l.toArray[i / k]! =l[i / k]:=by rw[getElem!_pos _ _ (by simpa using hq)];simp
  rw[h6,getElem!_pos _ _ (by rw[hk];exact hm)]
 have:=key d.toList;simpa using this
theorem Dt {α:Type}[Inhabited α]{W w:World}{L:List As}{enc:α→List Value}{e k b n c:Nat}{xs:List α}(hk:∀x,(enc x).length=k)(s:Sat W w (row e k (.slice (some ⟨b,0,none⟩) n c) n (xs.flatMap enc)::L))(hn:n=xs.length) :
 Go.Sort.HoldsK enc k w b 0 xs.toArray∧W.heap.size≤b∧b<w.heap.size:=by
 obtain⟨bl,h,⟨h1,h2,a,s1,s2,q,r⟩,t⟩:=s;rcases q with ⟨hv,_,_⟩ | ⟨b',cap,sp,fr,hv,hnc,hcap,hl,hl2,hfr,hb⟩
 ·
  cases hv
 ·
  cases hv;have S:Sat W w (aV b (.cells (xs.flatMap enc++sp).toArray e fr)::L):=⟨bl,h,⟨h1,h2,a,s1,s2,hb,r⟩,t⟩;refine⟨fun j hj=>?_,S.block.2,S.lt⟩;rw[Go.Sort.size_flatK]at hj;have hj:j<xs.length * k:=by simpa using hj
  have hlen:(xs.flatMap enc).length=xs.length * k:=by rw[hl,hn]
  have e1:(Go.Sort.flatK enc k xs.toArray)[j]! =(xs.flatMap enc)[j]'(by rw[hlen];exact hj):=by
   have e2:=tE hk xs.toArray;simp only[]at e2;have hj2:j<(Go.Sort.flatK enc k xs.toArray).toList.length:=by simpa using hj
   rw[getElem!_pos _ j (by simpa using hj)];have e3:(Go.Sort.flatK enc k xs.toArray).toList[j]=(xs.flatMap enc)[j]'(by rw[hlen];exact hj):=List.getElem_of_eq e2 hj2;rw[←e3];simp
  rw[e1,Nat.zero_add];have hcap':j<c * k:=by rw[←hl2,List.length_append,hlen];omega
  refine⟨?_,S.xV hfr hcap'⟩;refine S.o5 ?_;simp only[List.getElem?_toArray];rw[List.getElem?_append_left (by rw[hlen];exact hj)];exact List.getElem?_eq_getElem _
theorem xC {F:Array Value}{cs sp:List Value}(h:F.size=cs.length):Go.Sort.putCells id 0 F (cs++sp).toArray=(F.toList++sp).toArray:=by
 refine Array.ext' ?_;refine List.ext_getElem ?_ fun i h1 h2=>?_
 ·
  simp[Go.Sort.putCells,h]
 ·
  simp only[Go.Sort.putCells,Array.toList_mapIdx,List.getElem_mapIdx,Nat.zero_le,true_and,Nat.zero_add,Nat.sub_zero,id]
  by_cases hi:i<F.size
  ·
   rw[if_pos hi,getElem!_pos F i hi];simp[hi]
  ·
   rw[if_neg hi];have:cs.length≤i:=by omega
   have h3:F.toList.length≤i:=by simp;omega
   simp only[List.getElem_append_right h3];simp[List.getElem_append_right this,h]
theorem Sat.sorted {α:Type}[Inhabited α]{W w:World}{L:List As}{enc:α→List Value}{e k b n c m:Nat}{xs:List α}(hk:∀x,(enc x).length=k)(d:Array α)(os:Array Obj)(s:Sat W w (row e k (.slice (some ⟨b,0,none⟩) n c) n (xs.flatMap enc)::L))(hn:n=xs.length)(hd:d.size=xs.length) :
 Sat W (sortWorldK enc k w b 0 m d os) (row e k (.slice (some ⟨b,0,none⟩) n c) n (d.toList.flatMap enc)::L):=by
 have hfl:=tE hk d;obtain⟨bl,h,⟨h1,h2,a,s1,s2,q,r⟩,t⟩:=s;rcases q with ⟨hv,_,_⟩ | ⟨b',cap,sp,fr,hv,hnc,hcap,hl,hl2,hfr,hb⟩
 ·
  cases hv
 ·
  cases hv;have S:Sat W w (aV b (.cells (xs.flatMap enc++sp).toArray e fr)::L):=⟨bl,h,⟨h1,h2,a,s1,s2,hb,r⟩,t⟩;have hbk:=S.block;have hsz:(Go.Sort.flatK enc k d).size=(xs.flatMap enc).length:=by rw[Go.Sort.size_flatK,hl,hn,hd]
  have hheap:(Go.Sort.putRowK enc k (Go.Sort.ahead w m) b 0 d).heap=w.heap.modify b (Go.Sort.onCells (Go.Sort.putCells id 0 (Go.Sort.flatK enc k d))):=rfl
  have S1:Sat W (Go.Sort.putRowK enc k (Go.Sort.ahead w m) b 0 d) (aV b (.cells (d.toList.flatMap enc++sp).toArray e fr)::L):=by
   refine S.write ⟨rfl,rfl,rfl,by rw[hheap];simp,fun i hi=>?_⟩ ?_ fun i hi=>?_
   ·
    rw[hheap,Array.getElem?_modify,if_neg (by omega)]
   ·
    rw[hheap,Array.getElem?_modify,if_pos rfl,hbk.1];simp only[Option.map_some,Go.Sort.onCells];rw[xC hsz,hfl]
   ·
    rw[hheap,Array.getElem?_modify,if_neg (by omega)]
  have S2:Sat W (sortWorldK enc k w b 0 m d os) (aV b (.cells (d.toList.flatMap enc++sp).toArray e fr)::L):=by
   have hlt:=S1.below.size
   have hg:∀i,i<(Go.Sort.putRowK enc k (Go.Sort.ahead w m) b 0 d).heap.size→(sortWorldK enc k w b 0 m d os).heap[i]?=(Go.Sort.putRowK enc k (Go.Sort.ahead w m) b 0 d).heap[i]?:=fun i hi=>by
    show ((Go.Sort.putRowK enc k (Go.Sort.ahead w m) b 0 d).heap++os)[i]?=_;rw[Array.getElem?_append_left hi]
   refine S1.move ⟨rfl,rfl,rfl,?_,fun i hi=>hg i (by omega)⟩ fun i o hi he=>?_
   ·
    show _≤((Go.Sort.putRowK enc k (Go.Sort.ahead w m) b 0 d).heap++os).size;rw[Array.size_append];omega
   ·
    rw[hg i (Array.getElem?_eq_some_iff.1 he).1];exact he
  refine S2.imp fun g hg=>.inr ⟨b,c,sp,fr,rfl,hnc,hcap,?_,?_,hfr,hg⟩
  ·
   rw[←hfl,Array.length_toList,hsz,hl]
  ·
   rw[List.length_append,←hfl,Array.length_toList,hsz,←List.length_append,hl2]
theorem zw {α:Type}[Inhabited α]{lt:α→α→Bool}{d:Array α}(h:Go.Sort.SortedIn lt 0 d.size d):d.toList.Pairwise fun x y=>lt y x=false:=by
 rw[List.pairwise_iff_getElem];intro i j hi hj hij;have:=h i j (Nat.zero_le _) hij (by simpa using hj);rw[getElem!_pos d i (by simpa using hi),getElem!_pos d j (by simpa using hj)]at this;simpa using this
theorem Du {α:Type}[Inhabited α]{d d':Array α}(h:Go.Sort.PermIn 0 d.size d d'):d'.size=d.size∧d'.toList.Perm d.toList:=by
 obtain⟨h1,_,h3⟩:=h;refine⟨h1,?_⟩;have e1:d'.extract 0 d.size=d':=by rw[←h1];exact Array.extract_size
 have e2:d.extract 0 d.size=d:=Array.extract_size;rwa[e1,e2]at h3
end Go.Proofs.YtkjabaihpkbfhaaGreat.K
namespace Go.Proofs.YtkjabaihpkbfhaaGreat.Wk
open Go Go.RowKit Go.Proofs.YtkjabaihpkbfhaaGreat Go.Proofs.YtkjabaihpkbfhaaGreat.K Go.Proofs Go.Shelf Go.Sort Go.Proofs.YtkjabaihpkbfhaaGreat.T
def yR:Go.Shelf.Ren:=⟨fun | 6=>286 | 15=>175 | 14=>295 | 28=>214 | 29=>215 | 20=>297 | 21=>298 | 22=>299 | 23=>300 | 24=>301 | 25=>302 | 26=>303 | 27=>304 | 46=>305 | 47=>306 | 48=>307 | 49=>308 | 50=>309 | 57=>310 | n=>n,fun | 22=>326 | 24=>357 | 25=>397 | 3=>3 | 39=>265 | 0=>0 | 53=>208 | 55=>333 | 4=>4 | 46=>404 | 45=>403 | 50=>340 | 5=>5 | 9=>9 | 66=>409 | 70=>372 | 76=>412 | 77=>121 | n=>n,fun | n=>n⟩
theorem BP:Go.Proofs.SlLaysF0.n6 Tryz.prog yR:={
 mixed:=(by kernel_rfl)
 f6:=⟨Tryz.f286.name,by decide,Tryz.func286.trans (congrArg some (by kernel_rfl))⟩
 f14:=⟨Tryz.f295.name,by decide,Tryz.func295.trans (congrArg some (by kernel_rfl))⟩
 f15:=Tryz.func175.trans (congrArg some (by kernel_rfl))
 f20:=⟨Tryz.f297.name,by decide,Tryz.func297.trans (congrArg some (by kernel_rfl))⟩
 f21:=⟨Tryz.f298.name,by decide,Tryz.func298.trans (congrArg some (by kernel_rfl))⟩
 f22:=⟨Tryz.f299.name,by decide,Tryz.func299.trans (congrArg some (by kernel_rfl))⟩
 f23:=⟨Tryz.f300.name,by decide,Tryz.func300.trans (congrArg some (by kernel_rfl))⟩
 f24:=⟨Tryz.f301.name,by decide,Tryz.func301.trans (congrArg some (by kernel_rfl))⟩
 f25:=⟨Tryz.f302.name,by decide,Tryz.func302.trans (congrArg some (by kernel_rfl))⟩
 f26:=⟨Tryz.f303.name,by decide,Tryz.func303.trans (congrArg some (by kernel_rfl))⟩
 f27:=⟨Tryz.f304.name,by decide,Tryz.func304.trans (congrArg some (by kernel_rfl))⟩
 f28:=Tryz.func214.trans (congrArg some (by kernel_rfl))
 f29:=Tryz.func215.trans (congrArg some (by kernel_rfl))
 f46:=⟨Tryz.f305.name,by decide,Tryz.func305.trans (congrArg some (by kernel_rfl))⟩
 f47:=Tryz.func306.trans (congrArg some (by kernel_rfl))
 f48:=Tryz.func307.trans (congrArg some (by kernel_rfl))
 f49:=⟨Tryz.f308.name,by decide,Tryz.func308.trans (congrArg some (by kernel_rfl))⟩
 f50:=⟨Tryz.f309.name,by decide,Tryz.func309.trans (congrArg some (by kernel_rfl))⟩
 f57:=⟨Tryz.f310.name,by decide,Tryz.func310.trans (congrArg some (by kernel_rfl))⟩
 t0:=Tryz.underlying0
 a0:=Tryz.isAgg0
 z0:=Tryz.sizeOf0
 v0:=Tryz.zeroValue0
 t3:=Tryz.underlying3
 a3:=Tryz.isAgg3
 z3:=Tryz.sizeOf3
 v3:=Tryz.zeroValue3
 t4:=Tryz.underlying4
 a4:=Tryz.isAgg4
 z4:=Tryz.sizeOf4
 v4:=Tryz.zeroValue4
 t5:=Tryz.underlying5
 a5:=Tryz.isAgg5
 z5:=Tryz.sizeOf5
 v5:=Tryz.zeroValue5
 t9:=Tryz.underlying9
 a9:=Tryz.isAgg9
 z9:=Tryz.sizeOf9
 v9:=Tryz.zeroValue9
 t22:=Tryz.underlying326
 a22:=Tryz.isAgg326
 z22:=Tryz.sizeOf326
 v22:=Tryz.zeroValue326
 t25:=Tryz.underlying397
 a25:=Tryz.isAgg397
 z25:=Tryz.sizeOf397
 v25:=Tryz.zeroValue397
 t39:=Tryz.underlying265
 a39:=Tryz.isAgg265
 z39:=Tryz.sizeOf265
 v39:=Tryz.zeroValue265
 t45:=Tryz.underlying403
 a45:=Tryz.isAgg403
 z45:=Tryz.sizeOf403
 v45:=Tryz.zeroValue403
 t46:=Tryz.underlying404
 a46:=Tryz.isAgg404
 z46:=Tryz.sizeOf404
 v46:=Tryz.zeroValue404
 t50:=Tryz.underlying340
 a50:=Tryz.isAgg340
 z50:=Tryz.sizeOf340
 v50:=Tryz.zeroValue340
 t53:=Tryz.underlying208
 a53:=Tryz.isAgg208
 z53:=Tryz.sizeOf208
 v53:=Tryz.zeroValue208
 t55:=Tryz.underlying333
 a55:=Tryz.isAgg333
 z55:=Tryz.sizeOf333
 v55:=Tryz.zeroValue333
 t66:=Tryz.underlying409
 a66:=Tryz.isAgg409
 z66:=Tryz.sizeOf409
 v66:=Tryz.zeroValue409
 t70:=Tryz.underlying372
 a70:=Tryz.isAgg372
 z70:=Tryz.sizeOf372
 v70:=Tryz.zeroValue372
 t76:=Tryz.underlying412
 a76:=Tryz.isAgg412
 z76:=Tryz.sizeOf412
 v76:=Tryz.zeroValue412
 t77:=Tryz.underlying121
 a77:=Tryz.isAgg121
 z77:=Tryz.sizeOf121
 v77:=Tryz.zeroValue121 }
abbrev um:={r:bn // 1≤r.1∧r.1≤1000000000}
instance:Inhabited um:=⟨⟨(1,1),by decide⟩⟩
def C3 (r:um):List Value:=gY r.1
def IK (x y:um):Int:=x.1.1-y.1.1
theorem Ji (x y:um):ltOf IK x y=decide (x.1.1<y.1.1):=by unfold ltOf IK;rw[decide_eq_decide];omega
theorem JT:Go.Sort.SWO (ltOf IK) where
 irrefl x:=by rw[Ji];simp
 trans x y z h1 h2:=by rw[Ji]at *;simp at *;omega
 ntrans x y z h1 h2:=by rw[Ji]at *;simp at *;omega
theorem Hi (x y:um)(W:World):Calls Tryz.prog 287 #[.agg #[.int .i64 x.1.1,.int .i64 x.1.2],.agg #[.int .i64 y.1.1,.int .i64 y.1.2]] W fun e w'=>e=.returned (.int .i64 (x.1.1-y.1.1))∧∃q os',w'=grow (W.drewN q) os':=by
 have hw:IntKind.i64.wrap (x.1.1-y.1.1)=x.1.1-y.1.1:=by
  have:=x.2;have:=y.2;refine gD ?_ ?_<;>simp[IntKind.min,IntKind.max,IntKind.signed,IntKind.bits]<;>omega
 generalize x.1.1=a1 at hw ⊢
 generalize x.1.2=a2
 generalize y.1.1=b1 at hw ⊢
 generalize y.1.2=b2
 go_enter Tryz.func287,Tryz.ntmps287
 go_wp2
 go_ret
 exact⟨rfl,0,_,by rw[alloc_eq_grow,alloc_eq_grow,grow_grow];rfl⟩
theorem Ab (blk off size:Nat)(w:World):CmpLays Tryz.prog 287 #[] C3 2 IK blk off size w:=fun _ _ _ _ x y=>Hi x y _
theorem DX {xs:List bn}(h:∀x∈xs,1≤x.1∧x.1≤x.2∧x.2≤gI):∃gs:List um,gs.map Subtype.val=xs:=by
 induction xs with
 | nil=>exact⟨[],rfl⟩
 | cons x xs ih =>
   obtain⟨gs,hg⟩:=ih fun y hy=>h y (by simp[hy])
   have hx:=h x (by simp);rw[dH]at hx;exact⟨⟨x,hx.1,by omega⟩::gs,by simp[hg]⟩
theorem GK (gs:List um):gs.flatMap C3=(gs.map Subtype.val).flatMap gY:=by rw[List.flatMap_map];rfl
theorem uS (W w:World)(L:List As)(A:Option Addr)(c:Nat)(xs:List bn)(O:Sat W w (eO 357 A c xs::L))(hv:∀x∈xs,1≤x.1∧x.1≤x.2∧x.2≤gI)(hl:xs.length≤1000000000000) :
 Calls Tryz.prog 286 #[.slice A xs.length c,.func (.func 287) #[] #[]] w fun e w'=>e=.returned (.tuple #[])∧∃ys,ys.Perm xs∧ys.Pairwise (fun a b=>a.1≤b.1)∧Sat W w' (eO 357 A c ys::L):=by
 by_cases h0:xs=[]
 ·
  subst h0;exact (AnyF.slices_SortFunc_none BP A c _ w).mono fun e w' ⟨he,hw⟩=>⟨he,[],.refl _,.nil,by rw[hw];exact O⟩
 ·
  have hpos:0<xs.length:=List.length_pos_iff.2 h0;obtain⟨gs,hg⟩:=DX hv;have hgl:gs.length=xs.length:=by rw[←hg];simp
  have I:∃b,A=some ⟨b,0,none⟩:=by
   obtain⟨_,h,⟨h1,h2,a,s1,s2,q,r⟩,t⟩:=O;rcases q with ⟨hv,h3,_⟩ | ⟨b',cap,sp,fr,hv,_⟩
   ·
    omega
   ·
    cases hv;exact⟨_,rfl⟩
  obtain⟨b,rfl⟩:=I;have hS2:Sat W w (row 357 2 (.slice (some ⟨b,0,none⟩) xs.length c) xs.length (gs.flatMap C3)::L):=by rw[GK,hg];exact O
  obtain⟨hH,hb1,hb2⟩:=Dt (enc:=C3) (fun _=>rfl) hS2 hgl.symm;have eg:∀args w,(callFunc 287 args).run Tryz.prog w=.ok (.enter 287 args) w:=enters_of Tryz.func287 (by kernel_rfl) rfl;have hcon:=AnyQ.slices_SortFunc BP 2 Tryz.isAgg357 Tryz.sizeOf357 C3 (fun _=>rfl) (fun x=>qw x.1) IK JT 287 #[] b 0 c gs.toArray w eg (Ab _ _ _ _) hH hb2 (by simp;omega);rw[show gs.toArray.size=xs.length from by simpa using hgl]at hcon;change Calls Tryz.prog 286 _ _ _ at hcon;refine hcon.mono ?_;rintro e w' ⟨he,d',n,os,hp,hs,rfl⟩;have hsz:gs.toArray.size=xs.length:=by simpa using hgl
  rw[←hsz]at hp hs;obtain⟨hp1,hp2⟩:=Du hp;rw[←hp1]at hs;have hs2:=zw hs;refine⟨he,d'.toList.map Subtype.val,?_,?_,?_⟩
  ·
   rw[←hg];exact (hp2.map _).trans (by simp)
  ·
   rw[List.pairwise_map];refine hs2.imp fun {x y} h=>?_;rw[Ji]at h;simp at h;exact h
  ·
   have hS3:=Sat.sorted (m:=n) (enc:=C3) (fun _=>rfl) d' os hS2 hgl.symm (by rw[hp1,hsz,hgl]);rw[GK]at hS3;exact gL hS3 (by simp[hp1,hgl]) rfl
end Go.Proofs.YtkjabaihpkbfhaaGreat.Wk
namespace Go.Proofs.YtkjabaihpkbfhaaGreat.Wk
open Go Go.RowKit Go.Proofs.YtkjabaihpkbfhaaGreat Go.Proofs.YtkjabaihpkbfhaaGreat.K Go.Proofs.YtkjabaihpkbfhaaGreat.T
theorem aA {α:Type}{xs:List α}{i:Nat}{x:α}(h:xs[i]?=some x):xs.take (i+1)=xs.take i++[x]:=by
 have hi:=(List.getElem?_eq_some_iff.1 h).1;rw[List.take_add_one,h];rfl
theorem px {α:Type}(ls:List (Loc α))(i:Nat):((ls.take i).flatMap Loc.xs).length≤(ls.flatMap Loc.xs).length:=by
 conv=>rhs;rw[←List.take_append_drop i ls,List.flatMap_append,List.length_append]
 omega
theorem Cs {ls:List (Loc bn)}{i:Nat}{l:Loc bn}(hl:ls[i]?=some l)(j:Nat):(fq ((ls.take i).flatMap Loc.xs++l.xs.take j)).length≤(ls.flatMap Loc.xs).length:=by
 refine Nat.le_trans (iN _) ?_;have h1:=px ls (i+1);rw[aA hl,List.flatMap_append,List.length_append]at h1;simp only[List.flatMap_cons,List.flatMap_nil,List.append_nil]at h1;rw[List.length_append,List.length_take];omega
theorem zC (W:World)(A:Option Addr)(c:Nat)(ls:List (Loc bn))(hR:Rd W 1 (.slice A ls.length c) ls.length (ls.flatMap rN))(hE:∀l∈ls,l.runs W)(hn:ls.length≤1000000000000)(ht:(ls.flatMap Loc.xs).length≤1000000000000):Calls Tryz.prog 277 #[.slice A (ls).length c] W fun e w'=>∃A' c',e=.returned (.slice A' (au (ls.flatMap Loc.xs)).length c')∧Sat W w' [eO 357 A' c' (au (ls.flatMap Loc.xs))]:=by
 refine bP Tryz.func277 [0] ?_;have O:=Sat.start W;refine uC 14 ?_;refine u1 4 (ak rfl Ff) ?_;intro a I;refine wp_loop_ghost (fun (mm:Nat) a w=>∃(i:Nat) (xs:List bn) (Aa:Option Addr) (ca:Nat),Ag a 50 [(3,.slice Aa (xs).length ca),(13,.slice A (ls).length c),(14,.int .i64 ((ls.length:Nat):Int)),(15,.int .i64 ((i:Nat):Int))]∧Sat W w ([eO 357 Aa ca xs])∧(i≤ls.length)∧(xs=fq ((ls.take i).flatMap Loc.xs))∧mm=ls.length-i) ls.length ?_ ?_
 ·replace I:=I.kp [3,13,14,15] rfl;exact⟨0,[],none,0,I,(O.aW 357 2),(by omega),(by rfl),by omega⟩
 intro m a w hI;clear O I;obtain⟨i,xs,Aa,ca,I,O,hi,hx,rfl⟩:=hI;refine rC 2 I ?_;clear I a;refine aM 0 0 (aq rfl rfl) ?_ ?_
 ·intro h16;refine uO 10 ?_;obtain⟨A_p,rfl⟩:∃q,A=some q:=(hR.sat O).ao (by omega);obtain⟨l,hl⟩:∃zz_,ls[i]?=some zz_:=⟨_,List.getElem?_eq_getElem (by omega)⟩;obtain⟨la,lc,lxs⟩:=l;have hlr:ke W la lc lxs:=hE _ (List.mem_of_getElem? hl);intro a I
  have hll:lxs.length≤1000000000000:=by
   have h1:=px ls (i+1);rw[aA hl,List.flatMap_append,List.length_append]at h1;simp only[List.flatMap_cons,List.flatMap_nil,List.append_nil]at h1;omega
  refine o1 0 I (fY (I.ev rfl) (I.ev rfl) Ff iY (by omega) (by omega)) ?_;clear I a;refine u1 6 (an rfl kZ (bI (hR.sat O) (FP hl 0 _ rfl))) ?_;refine u1 4 (ak rfl bR) ?_;intro a I;refine wp_loop_ghost (fun (mm:Nat) a w=>∃(j:Nat) (xs:List bn) (Aa:Option Addr) (ca:Nat),Ag a 50 [(3,.slice Aa (xs).length ca),(13,.slice (some A_p) (ls).length c),(14,.int .i64 ((ls.length:Nat):Int)),(15,.int .i64 ((i:Nat):Int)),(19,.slice la (lxs).length lc),(20,.int .i64 ((lxs.length:Nat):Int)),(21,.int .i64 ((j:Nat):Int))]∧Sat W w ([eO 357 Aa ca xs])∧(j≤lxs.length)∧(xs=fq ((ls.take i).flatMap Loc.xs++lxs.take j))∧mm=lxs.length-j) lxs.length ?_ ?_
  ·replace I:=I.kp [3,13,14,15,19,20,21] rfl;exact⟨0,xs,Aa,ca,I,O,(by omega),(by rw[hx];simp),by omega⟩
  intro m a w hI;clear O I;obtain⟨j,xs,Aa,ca,I,O,hj,hx,rfl⟩:=hI;refine rC 2 I ?_;clear I a;refine aM 0 0 (aq rfl rfl) ?_ ?_
  ·intro h22;refine uO 10 ?_;obtain⟨la_p,rfl⟩:∃q,la=some q:=(hlr.sat O).ao (by omega);obtain⟨r,hr⟩:∃zz_,lxs[j]?=some zz_:=⟨_,List.getElem?_eq_getElem (by omega)⟩;have hxl:xs.length≤1000000000000:=by rw[hx];exact Nat.le_trans (Cs hl j) ht
   refine u1 0 (ix rfl rfl bR dx) ?_;refine u1 0 (ax (cs:=gY r) rfl sw dx (fun j u e=>bI (hlr.sat O) (eB hr j u e))) ?_;refine uN pr O ?_;clear O;intro b7 w O;refine uW (vs:=[_,_]) (cs':=[_,_]) rfl rfl dx O ?_;clear O;intro w O;refine uO 4 ?_;refine u1 0 (lS (cs:=[_,_]) rfl) ?_;refine uF rfl (Bi w r) ?_;rintro e w ⟨rfl,hT⟩;replace O:Sat _ _ _:=O.ag hT;clear hT;refine uO 1 ?_;refine u1 0 (aj rfl rfl) ?_;refine nk 0 0 (aj rfl rfl) ?_ ?_
   ·intro h29;intro a I;simp only[decide_eq_decide,decide_eq_true_eq,decide_eq_false_iff_not,Bool.not_eq_true',Bool.not_eq_false',bne_iff_ne,ne_eq,beq_iff_eq,Bool.not_eq_true,Bool.not_eq_false]at h29;refine goN I rfl pr O ?_;clear I a O;intro b8 w O;refine uW (vs:=[_,_]) (cs':=[_,_]) rfl rfl dx O ?_;clear O;intro w O;refine uO 11 ?_;refine u1 0 (lS (cs:=[_,_]) rfl) ?_;intro a I;refine jl (vss:=[[_,_]]) I rfl rfl bR iC rfl rfl rfl (by simp) rfl O ?_;clear I a O;intro A33 w O;intro a I;refine cZ I rfl rfl rfl bR iC rfl (O.p 3) (O.rd.src bR (by simp[Value.oneCell'])) (by omega) (by omega) ?_;clear I a O;intro A34 c34 w hc34 O;refine uO 5 ?_;refine u1 2 (ad rfl rfl) ?_;intro a I;replace I:=I.kp [3,13,14,15,19,20,21] rfl;have hc:gX r=some (max r.1 1,min r.2 1000000000):=by unfold gX;rw[dH,if_pos h29]
    have e1:=nF (a:=(ls.take i).flatMap Loc.xs++lxs.take j) hc;rw[List.append_assoc,←aA hr,←hx]at e1;refine⟨lxs.length-(j+1),by omega,j+1,xs++[(max r.1 1,min r.2 1000000000)],_,_,?_,gL (cu O) (by simp) (by simp[gY]),by omega,e1.symm,rfl⟩;rw[List.length_append];exact I
   ·intro h29;intro a I;simp only[decide_eq_decide,decide_eq_true_eq,decide_eq_false_iff_not,Bool.not_eq_true',Bool.not_eq_false',bne_iff_ne,ne_eq,beq_iff_eq,Bool.not_eq_true,Bool.not_eq_false]at h29;refine goN I rfl pr O ?_;clear I a O;intro b8 w O;refine uW (vs:=[_,_]) (cs':=[_,_]) rfl rfl dx O ?_;clear O;intro w O;refine uO 13 ?_;refine u1 2 (ad rfl rfl) ?_;intro a I;replace I:=I.kp [3,13,14,15,19,20,21] rfl;have hc:gX r=none:=by unfold gX;rw[dH,if_neg h29]
    have e1:=ny (a:=(ls.take i).flatMap Loc.xs++lxs.take j) hc;rw[List.append_assoc,←aA hr,←hx]at e1;exact⟨lxs.length-(j+1),by omega,j+1,xs,_,_,I,O.drop.drop,by omega,e1.symm,rfl⟩
  ·intro h22;refine uO 11 ?_;refine u1 2 (ad rfl rfl) ?_;intro a I;replace I:=I.kp [3,13,14,15] rfl;refine⟨ls.length-(i+1),by omega,i+1,xs,_,_,I,O,by omega,?_,rfl⟩;rw[hx,List.take_of_length_le (show lxs.length≤j by omega),aA hl,List.flatMap_append];simp
 ·intro h16;obtain rfl:i=ls.length:=by omega
  intro a I;rw[List.take_length]at hx;refine rO 12 I ?_;clear I a;refine uF rfl (uS _ _ _ Aa ca xs O (fun x hq=>by rw[hx]at hq;exact n0 x hq) (by rw[hx];exact Nat.le_trans (iN _) ht)) ?_;clear O;rintro e w ⟨rfl,ys,hp,hsd,O⟩;intro a I;rw[←hp.length_eq]at I;replace hp:ys.Perm (fq (ls.flatMap Loc.xs)):=hx ▸ hp;have hyl:ys.length≤1000000000000:=by rw[hp.length_eq];exact Nat.le_trans (iN _) ht
  refine rO 11 I ?_;clear I a;refine u1 3 (ak rfl bR) ?_;intro a I;replace I:=I.kp [10,39,40,41] rfl;refine rC 1 I ?_;clear I a;intro a I;refine wp_loop_ghost (fun (mm:Nat) a w=>∃(k:Nat) (Ao:Option Addr) (co:Nat),Ag a 50 [(10,.slice Ao (((ys.take k).foldl gg [])).length co),(39,.slice Aa (ys).length ca),(40,.int .i64 ((ys.length:Nat):Int)),(41,.int .i64 ((k:Nat):Int))]∧Sat W w ([eO 357 Ao co ((ys.take k).foldl gg []),eO 357 Aa ca ys])∧(k≤ys.length)∧mm=ys.length-k) ys.length ?_ ?_
  ·replace I:=I.kp [10,39,40,41] rfl;exact⟨0,none,0,I,(O.aW 357 2),(by omega),by omega⟩
  intro m a w hI;clear O I;obtain⟨k,Ao,co,I,O,hk,rfl⟩:=hI;refine rC 2 I ?_;clear I a;refine aM 0 0 (aq rfl rfl) ?_ ?_
  ·intro h42;refine uO 10 ?_;obtain⟨Aa_p,rfl⟩:∃q,Aa=some q:=(O.p 1).rd.ao (by omega);obtain⟨r,hr⟩:∃zz_,ys[k]?=some zz_:=⟨_,List.getElem?_eq_getElem (by omega)⟩;have huc:=Df hp hsd k;have hcb:∀x∈(ys.take k).foldl gg [],0≤x.2∧x.2≤1000000000:=fun x hq=>by have:=huc.1.each x hq;rw[dH]at this;omega
   intro a I
   have hcl:((ys.take k).foldl gg []).length≤1000000000000:=by
    have:=ox (ys.take k) [];simp at this;omega
   refine o1 0 I (fY (I.ev rfl) (I.ev rfl) bR dx (by omega) (by omega)) ?_;clear I a;refine u1 0 (ax (cs:=gY r) rfl sw dx (fun j u e=>bI (O.p 1).rd (eB hr j u e))) ?_;refine uN pr O ?_;clear O;intro b12 w O;refine uW (vs:=[_,_]) (cs':=[_,_]) rfl rfl dx O ?_;clear O;intro w O;refine uO 4 ?_;refine u1 0 (lS (cs:=[_,_]) rfl) ?_;refine uF rfl (CW _ _ _ Ao co ((ys.take k).foldl gg []) r (O.p 1) hcb hcl) ?_;clear O;rintro e w ⟨A1,c1,rfl,O⟩;refine uO 5 ?_;refine u1 2 (ad rfl rfl) ?_;intro a I;replace I:=I.kp [10,39,40,41] rfl;have e1:(ys.take (k+1)).foldl gg []=gg ((ys.take k).foldl gg []) r:=by rw[aA hr,List.foldl_append];rfl
   refine⟨ys.length-(k+1),by omega,k+1,A1,c1,?_,?_,by omega,rfl⟩
   ·rw[e1];exact I
   ·rw[e1];exact (O.p 1).drop
  ·intro h42;refine uO 16 ?_;refine aU ?_;have eU:(ys.take k).foldl gg []=au (ls.flatMap Loc.xs):=by rw[List.take_of_length_le (by omega),Dk hp hsd]
   rw[eU]at O ⊢;exact⟨_,_,rfl,cu O⟩
theorem Hb (W:World)(B:Option Addr)(d:Nat)(A:Option Addr)(c:Nat)(xs:List bn)(hB:Rd W 1 (.slice B 1 d) 1 [.slice A xs.length c])(hR:ke W A c xs)(hl:xs.length≤1000000000000) :
 Calls Tryz.prog 277 #[.slice B 1 d] W fun e w'=>∃A' c',e=.returned (.slice A' (au xs).length c')∧Sat W w' [eO 357 A' c' (au xs)]:=by
 have h:=zC W B d [(⟨A,c,xs⟩:Loc bn)] hB (fun l h=>by simp at h;subst h;exact hR) (by simp) (by simpa using hl);rw[show [(⟨A,c,xs⟩:Loc bn)].flatMap Loc.xs=xs from by simp]at h;exact h
theorem wW {ns:List bn}(h:∀r,ns[0]?=some r→r.1≠1):aR ns=(0,ns):=by
 cases ns with
 | nil=>rfl
 | cons r l=>rw[gf,if_neg (h r rfl)]
theorem Ey {ns:List bn}{r:bn}(h:ns[0]?=some r)(h1:r.1=1):aR ns=(r.2,ns.drop 1):=by
 cases ns with
 | nil=>simp at h
 | cons x l=>simp at h;subst h;rw[gf,if_pos h1];rfl
theorem qE (l m:List bn):cY (l++m)=cY l+cY m:=by
 unfold cY
 induction l with
 | nil=>simp
 | cons x l ih=>simp only[List.cons_append,List.foldr_cons,ih];omega
theorem sv {l:List bn}(h:can l)(i:Nat):0≤cY (l.take i)∧cY (l.take i)≤1000000000:=by
 have hc:can (l.take i):=tg (m:=l.drop i) (by rw[List.take_append_drop];exact h);refine⟨(iS hc).1,?_⟩;rcases uf hc (Int.le_refl 0) (fun s hs=>by have:=(hc.each s hs).1;omega) with h | h
 ·
  rw[dH]at h;omega
 ·
  rw[h];decide
theorem aH {α:Type}{xs:List α}{i:Nat}{x:α}(h:xs[i]?=some x):xs.drop i=x::xs.drop (i+1):=by
 have hi:=(List.getElem?_eq_some_iff.1 h);rw[List.drop_eq_getElem_cons hi.1,hi.2]
theorem yr (next:Int)(r:bn)(l:List bn):lz next (r::l)=(if next<r.1 then [(next,r.1-1)] else [])++lz (r.2+1) l:=rfl
theorem Bv (next:Int):lz next []=if next≤gI then [(next,gI)] else []:=rfl
theorem kR (W:World)(A:Option Addr)(c:Nat)(xs:List bn)(hR:ke W A c xs)(hl:xs.length≤1000000000000):Calls Tryz.prog 253 #[.slice A (xs).length c] W fun e w'=>∃A' c',e=.returned (.slice A' (au xs).length c')∧Sat W w' [eO 357 A' c' (au xs)]:=by
 refine bP Tryz.func253 [0] ?_;have O:=Sat.start W;refine uC 8 ?_;intro a I;refine nw I rfl rfl Ff H9 rfl rfl rfl (by simp[Value.oneCell']) O ?_;clear I a O;intro A4 w O;refine uF rfl (Hb _ _ _ A c xs O.rd (hR.sat O) hl) ?_;rintro e w ⟨A1,c1,rfl,hT⟩;replace O:=O.ar hT;clear hT;refine uO 4 ?_;refine aU ?_;exact⟨_,_,rfl,cu O⟩
theorem AK (W:World)(A:Option Addr)(c:Nat)(xs:List bn)(hR:ke W A c xs)(hl:xs.length≤1000000000000):Calls Tryz.prog 243 #[.slice A (xs).length c] W fun e w'=>∃A' c',e=.returned (.tuple #[.int .i64 (aR (au xs)).1,.slice A' (aR (au xs)).2.length c'])∧Sat W w' [eO 357 A' c' (aR (au xs)).2]:=by
 refine bP Tryz.func243 [0] ?_;intro a I;refine Fw fun Q _ hQ=>?_;have O:=Sat.start W;refine rC 9 I ?_;clear I a;refine uF rfl (kR _ A c xs (hR.sat O) hl) ?_;rintro e w ⟨A1,c1,rfl,hT⟩;replace O:=O.ar hT;clear hT;have hcn1:=en xs;have hnl1:=cH xs;generalize hns1:au xs=ns at O hcn1 hnl1 ⊢;refine uO 7 ?_;refine u1 0 (ak rfl bR) ?_;refine aM 0 0 (aY rfl rfl) ?_ ?_
 ·intro h9;refine uO 19 ?_;intro a I;refine hQ _ _ _ ?_;refine FJ I rfl rfl rfl ?_;have eL:aR ns=(0,ns):=wW fun q hq=>by rw[List.getElem?_eq_none (by omega)]at hq;cases hq
  rw[hns1,eL];exact⟨_,_,rfl,cu O⟩
 ·intro h9;refine uO 2 ?_;obtain⟨A1_p,rfl⟩:∃q,A1=some q:=O.rd.ao (by omega);obtain⟨r,hr⟩:∃zz_,ns[0]?=some zz_:=⟨_,List.getElem?_eq_getElem (by omega)⟩;refine u1 0 (ix rfl rfl bR dx) ?_;refine u1 0 (aw rfl gA) ?_;refine u1 0 (an rfl dE (bI O.rd (eB hr 0 _ rfl))) ?_;refine aM 0 0 (aD rfl rfl) ?_ ?_
  ·intro h15;refine uO 13 ?_;intro a I;refine hQ _ _ _ ?_;refine FJ I rfl rfl rfl ?_;have eL:aR ns=(0,ns):=wW fun q hq=>by rw[hr]at hq;cases hq;exact h15
   rw[hns1,eL];exact⟨_,_,rfl,cu O⟩
  ·intro h15;refine uO 7 ?_;intro a I;refine bg [] O (by kernel_rfl) ?_;replace O:=O.drew;refine rX [0] I ?_;clear I a;refine bA 1 [] rfl (fun w=>(ix rfl rfl bR dx)) ?_;refine bA 2 [] rfl (fun w=>(aw rfl dR)) ?_;refine cW 3 [4] rfl (by exact⟨[],O⟩) (fun w hT=>have O:=hT.sat;(an rfl dE (bI O.rd (eB hr 1 _ rfl)))) ?_;refine bA 5 [] rfl (fun w=>(wX rfl rfl bR dx (by omega) (by omega))) ?_;intro a I;refine aG 6 (by kernel_rfl) ?_;refine eF I rfl rfl Jd rfl (xI _ _ _ _ (ns.drop 1) (FN O.rd (by omega)) (by simp) (by simp;omega)) ?_;clear I a;rintro e w ⟨A2,c2,rfl,hT⟩;replace O:=O.ar hT;clear hT;refine⟨_,rfl,?_⟩;intro a I;refine⟨.inr fun _=>(by exact⟨[_],O⟩),?_⟩;refine rX [7,8] I ?_;clear I a;intro a I;refine ah (by kernel_rfl) ?_ _;refine rE 1 I ?_;clear I a;intro a I
   replace I:=I.kp [2,3] rfl;refine rC 1 I ?_;clear I a;intro a I;refine hQ _ _ _ ?_;refine FJ I rfl rfl rfl ?_;have eL:=Ey hr (by omega);rw[hns1,eL];exact⟨_,_,rfl,cu O⟩
theorem Az (W:World)(A:Option Addr)(c:Nat)(xs:List bn)(hR:ke W A c xs)(hl:xs.length≤1000000000000):Calls Tryz.prog 204 #[.slice A (xs).length c] W fun e w'=>e=.returned (.int .i64 (cY (au xs)))∧Sat W w' []:=by
 refine bP Tryz.func204 [0] ?_;intro a I;refine Fw fun Q _ hQ=>?_;have O:=Sat.start W;refine rC 14 I ?_;clear I a;refine uF rfl (kR _ A c xs (hR.sat O) hl) ?_;rintro e w ⟨A1,c1,rfl,hT⟩;replace O:=O.ar hT;clear hT;have hcn1:=en xs;have hnl1:=cH xs;generalize hns1:au xs=ns at O hcn1 hnl1 ⊢;refine u1 4 (ak rfl bR) ?_;intro a I;refine wp_loop_ghost (fun (mm:Nat) a w=>∃(i:Nat),Ag a 23 [(3,.int .i64 (cY (ns.take i))),(7,.slice A1 (ns).length c1),(8,.int .i64 ((ns.length:Nat):Int)),(9,.int .i64 ((i:Nat):Int))]∧Sat W w ([eO 357 A1 c1 ns])∧(i≤ns.length)∧mm=ns.length-i) ns.length ?_ ?_
 ·replace I:=I.kp [3,7,8,9] rfl;exact⟨0,I,O,(by omega),by omega⟩
 intro m a w hI;clear O I;obtain⟨i,I,O,hi,rfl⟩:=hI;refine rC 2 I ?_;clear I a;refine aM 0 0 (aq rfl rfl) ?_ ?_
 ·intro h10;refine uO 10 ?_;obtain⟨A1_p,rfl⟩:∃q,A1=some q:=O.rd.ao (by omega);obtain⟨r,hr⟩:∃zz_,ns[i]?=some zz_:=⟨_,List.getElem?_eq_getElem (by omega)⟩;have hb1:=sv hcn1 i;have hrb:=hcn1.each r (List.mem_of_getElem? hr);intro a I;rw[dH]at hrb;refine o1 0 I (fY (I.ev rfl) (I.ev rfl) bR dx (by omega) (by omega)) ?_;clear I a;refine u1 0 (ax (cs:=gY r) rfl sw dx (fun j u e=>bI O.rd (eB hr j u e))) ?_;refine uN pr O ?_;clear O;intro b5 w O;refine uW (vs:=[_,_]) (cs':=[_,_]) rfl rfl dx O ?_;clear O;intro w O;refine uO 4 ?_;refine u1 0 (aa rfl dR) ?_;refine u1 0 (ld rfl) ?_;refine u1 0 (aa rfl gA) ?_;refine u1 0 (ld rfl) ?_;refine u1 0 (sb rfl rfl) ?_;refine u1 0 (ad rfl rfl) ?_;refine u1 5 (ad rfl rfl) ?_;refine u1 2 (ad rfl rfl) ?_;intro a I;replace I:=I.kp [3,7,8,9] rfl
  have e1:cY (ns.take (i+1))=cY (ns.take i)+(r.2-r.1+1):=by rw[aA hr,qE];simp[cY]
  refine⟨ns.length-(i+1),by omega,i+1,?_,O.drop,by omega,rfl⟩;rw[e1];exact I
 ·intro h10;refine uO 16 ?_;intro a I;refine hQ _ _ _ ?_;refine E4 I rfl rfl ?_;have e1:ns.take i=ns:=List.take_of_length_le (by omega);rw[e1,hns1];exact⟨rfl,O.nil⟩
theorem xr (W:World)(A:Option Addr)(c:Nat)(xs:List bn)(hR:ke W A c xs)(hl:xs.length≤1000000000000)(hc:can xs):Calls Tryz.prog 403 #[.slice A (xs).length c] W fun e w'=>∃A' c',e=.returned (.slice A' (lz 1 xs).length c')∧Sat W w' [eO 357 A' c' (lz 1 xs)]:=by
 refine bP Tryz.func403 [0] ?_;have O:=Sat.start W;refine uC 19 ?_;refine u1 4 (ak rfl bR) ?_;intro a I;refine wp_loop_ghost (fun (mm:Nat) a w=>∃(i:Nat) (next:Int) (out:List bn) (Ao:Option Addr) (co:Nat),Ag a 37 [(3,.slice Ao (out).length co),(4,.int .i64 next),(7,.slice A (xs).length c),(8,.int .i64 ((xs.length:Nat):Int)),(9,.int .i64 ((i:Nat):Int))]∧Sat W w ([eO 357 Ao co out])∧(i≤xs.length)∧(1≤next)∧(next≤1000000001)∧(out.length≤i)∧(out++lz next (xs.drop i)=lz 1 xs)∧mm=xs.length-i) xs.length ?_ ?_
 ·replace I:=I.kp [3,4,7,8,9] rfl;exact⟨0,1,[],none,0,I,(O.aW 357 2),(by omega),(by omega),(by omega),(by simp),(by rfl),by omega⟩
 intro m a w hI;clear O I;obtain⟨i,next,out,Ao,co,I,O,hi,hn1,hn2,hol,ho,rfl⟩:=hI;refine rC 2 I ?_;clear I a;refine aM 0 0 (aq rfl rfl) ?_ ?_
 ·intro h10;refine uO 10 ?_;obtain⟨A_p,rfl⟩:∃q,A=some q:=(hR.sat O).ao (by omega);obtain⟨r,hr⟩:∃zz_,xs[i]?=some zz_:=⟨_,List.getElem?_eq_getElem (by omega)⟩;have hrb:=hc.each r (List.mem_of_getElem? hr);intro a I;rw[dH]at hrb;refine o1 0 I (fY (I.ev rfl) (I.ev rfl) bR dx (by omega) (by omega)) ?_;clear I a;refine u1 0 (ax (cs:=gY r) rfl sw dx (fun j u e=>bI (hR.sat O) (eB hr j u e))) ?_;refine uN pr O ?_;clear O;intro b6 w O;refine uW (vs:=[_,_]) (cs':=[_,_]) rfl rfl dx O ?_;clear O;intro w O;refine uO 6 ?_;refine u1 0 (aa rfl gA) ?_;refine u1 0 (ld rfl) ?_;refine aM 0 0 (aq rfl rfl) ?_ ?_
  ·intro h16;refine uO 6 ?_;refine u1 0 (aa rfl gA) ?_;refine u1 0 (ld rfl) ?_;refine u1 0 (sb rfl rfl) ?_;intro a I;refine o1 0 I (aL I rfl kG) ?_;clear I a;intro a I;refine jl (vss:=[[_,_]]) I rfl rfl bR iC rfl rfl rfl (by simp) rfl O ?_;clear I a O;intro A23 w O;intro a I;refine cZ I rfl rfl rfl bR iC rfl (O.p 2) (O.rd.src bR (by simp[Value.oneCell'])) (by omega) (by omega) ?_;clear I a O;intro A24 c24 w hc24 O;refine uO 4 ?_;refine u1 0 (aa rfl dR) ?_;refine u1 0 (ld rfl) ?_;refine u1 5 (ad rfl rfl) ?_;refine u1 2 (ad rfl rfl) ?_;intro a I;replace I:=I.kp [3,4,7,8,9] rfl;rw[aH hr,yr,if_pos h16,←List.append_assoc]at ho;refine⟨xs.length-(i+1),by omega,i+1,r.2+1,out++[(next,r.1-1)],A24,c24,?_,gL (cu O) (by simp) (by simp[gY]),by omega,by omega,by omega,by simp;omega,ho,rfl⟩
   rw[List.length_append];exact I
  ·intro h16;refine uO 6 ?_;refine u1 0 (aa rfl dR) ?_;refine u1 0 (ld rfl) ?_;refine u1 5 (ad rfl rfl) ?_;refine u1 2 (ad rfl rfl) ?_;intro a I;replace I:=I.kp [3,4,7,8,9] rfl;rw[aH hr,yr,if_neg h16,List.nil_append]at ho;exact⟨xs.length-(i+1),by omega,i+1,r.2+1,out,Ao,co,I,O.drop,by omega,by omega,by omega,by omega,ho,rfl⟩
 ·intro h10;refine uO 13 ?_;refine aM 0 0 (dT rfl rfl) ?_ ?_
  ·intro h30;refine uO 2 ?_;intro a I;replace I:=I.kp [3,4,30] rfl;refine rC 4 I ?_;clear I a;intro a I;refine o1 0 I (aL I rfl kG) ?_;clear I a;intro a I;refine jl (vss:=[[_,_]]) I rfl rfl bR iC rfl rfl rfl (by simp) rfl O ?_;clear I a O;intro A34 w O;intro a I;refine cZ I rfl rfl rfl bR iC rfl (O.p 1) (O.rd.src bR (by simp[Value.oneCell'])) (by omega) (by omega) ?_;clear I a O;intro A35 c35 w hc35 O;refine uO 10 ?_;refine aU ?_;rw[List.drop_of_length_le (by omega),Bv,dH,if_pos h30]at ho;rw[←ho];exact⟨_,_,pZ (by simp),gL (cu O) (by simp) (by simp[gY])⟩
  ·intro h30;refine uO 2 ?_;intro a I;replace I:=I.kp [3,4,30] rfl;refine rC 10 I ?_;clear I a;refine aU ?_;rw[List.drop_of_length_le (by omega),Bv,dH,if_neg h30,List.append_nil]at ho;rw[←ho];exact⟨_,_,rfl,O⟩
theorem oK {x y:List bn}{i j:Nat}{p q:bn}(hp:x[i]?=some p)(hq:y[j]?=some q):dP (x.drop i) (y.drop j)=(if max p.1 q.1≤min p.2 q.2 then [(max p.1 q.1,min p.2 q.2)] else [])++(if p.2<q.2 then dP (x.drop (i+1)) (y.drop j) else dP (x.drop i) (y.drop (j+1))):=by
 rw[aH hp,aH hq,pQ]
theorem CN {x y:List bn}{i j:Nat}(h:x.length≤i):dP (x.drop i) (y.drop j)=[]:=by rw[List.drop_of_length_le h];cases y.drop j<;>simp[dP]
theorem C2 {x y:List bn}{i j:Nat}(h:y.length≤j):dP (x.drop i) (y.drop j)=[]:=by rw[List.drop_of_length_le h,wi]
theorem Bd (W:World)(A:Option Addr)(c:Nat)(xs:List bn)(B:Option Addr)(d:Nat)(ys:List bn)(hX:ke W A c xs)(hY:ke W B d ys)(hlx:xs.length≤1000000000000)(hly:ys.length≤1000000000000):Calls Tryz.prog 402 #[.slice A (xs).length c,.slice B (ys).length d] W fun e w'=>∃A' c',e=.returned (.slice A' (dP (au xs) (au ys)).length c')∧Sat W w' [eO 357 A' c' (dP (au xs) (au ys))]:=by
 refine bP Tryz.func402 [0,1] ?_;intro a I;refine Fw fun Q _ hQ=>?_;have O:=Sat.start W;refine rC 8 I ?_;clear I a;refine uF rfl (kR _ A c xs (hX.sat O) hlx) ?_;rintro e w ⟨A1,c1,rfl,hT⟩;replace O:=O.ar hT;clear hT;have hcn1:=en xs;have hnl1:=cH xs;generalize hns1:au xs=ns at O hcn1 hnl1 ⊢;refine uO 1 ?_;refine uF rfl (kR _ B d ys (hY.sat O) hly) ?_;rintro e w ⟨A2,c2,rfl,hT⟩;replace O:=O.ar hT;clear hT;have hcn2:=en ys;have hnl2:=cH ys;generalize hns2:au ys=ms at O hcn2 hnl2 ⊢;refine uO 17 ?_;intro a I
 refine wp_loop_ghost (fun (mm:Nat) a w=>∃(i j:Nat) (out:List bn) (Ao:Option Addr) (co:Nat),Ag a 73 [(5,.slice A1 (ns).length c1),(6,.slice A2 (ms).length c2),(7,.slice Ao (out).length co),(8,.int .i64 ((i:Nat):Int)),(9,.int .i64 ((j:Nat):Int))]∧Sat W w ([eO 357 Ao co out,eO 357 A2 c2 ms,eO 357 A1 c1 ns])∧(i≤ns.length)∧(j≤ms.length)∧(out.length≤i+j)∧(out++dP (ns.drop i) (ms.drop j)=dP ns ms)∧mm=ns.length+ms.length-(i+j)) (ns.length+ms.length) ?_ ?_
 ·replace I:=I.kp [5,6,7,8,9] rfl;exact⟨0,0,[],none,0,I,(O.aW 357 2),(by omega),(by omega),(by simp),(by rfl),by omega⟩
 intro m a w hI;clear O I;obtain⟨i,j,out,Ao,co,I,O,hi,hj,hol,ho,rfl⟩:=hI;refine rC 5 I ?_;clear I a;refine u1 0 (ak rfl bR) ?_;refine aM 0 0 (aq rfl rfl) ?_ ?_
 ·intro h18;refine uO 3 ?_;refine u1 0 (ak rfl bR) ?_;refine aM 0 0 (aq rfl rfl) ?_ ?_
  ·intro h23;obtain⟨p,hp⟩:∃p,ns[i]?=some p:=⟨_,List.getElem?_eq_getElem (by omega)⟩;obtain⟨q,hq⟩:∃q,ms[j]?=some q:=⟨_,List.getElem?_eq_getElem (by omega)⟩;obtain⟨A1_p,rfl⟩:∃q,A1=some q:=(O.p 2).rd.ao (by omega);obtain⟨A2_p,rfl⟩:∃q,A2=some q:=(O.p 1).rd.ao (by omega);refine uO 8 ?_;intro a I;refine bg [24] O (by kernel_rfl) ?_;replace O:=O.drew;refine rX [0,1] I ?_;clear I a
   refine bA 2 [] rfl (fun w=>(ix rfl rfl bR dx)) ?_;refine bA 3 [] rfl (fun w=>(aw rfl gA)) ?_;refine cW 4 [5,6] rfl (by exact⟨[],O⟩) (fun w hT=>have O:=hT.sat;(an rfl dE (bI (O.p 2).rd (eB hp 0 _ rfl)))) ?_;refine bA 7 [] rfl (fun w=>(ix rfl rfl bR dx)) ?_;refine bA 8 [] rfl (fun w=>(aw rfl gA)) ?_;refine cW 9 [] rfl (by exact⟨[],O⟩) (fun w hT=>have O:=hT.sat;(an rfl dE (bI (O.p 1).rd (eB hq 0 _ rfl)))) ?_;refine bA 10 [11,12] rfl (fun w=>(tf rfl rfl)) ?_;refine bA 13 [] rfl (fun w=>(ix rfl rfl bR dx)) ?_;refine bA 14 [] rfl (fun w=>(aw rfl dR)) ?_;refine cW 15 [16,17] rfl (by exact⟨[],O⟩) (fun w hT=>have O:=hT.sat;(an rfl dE (bI (O.p 2).rd (eB hp 1 _ rfl)))) ?_;refine bA 18 [] rfl (fun w=>(ix rfl rfl bR dx)) ?_;refine bA 19 [] rfl (fun w=>(aw rfl dR)) ?_;refine cW 20 [] rfl (by exact⟨[],O⟩) (fun w hT=>have O:=hT.sat;(an rfl dE (bI (O.p 1).rd (eB hq 1 _ rfl)))) ?_;refine bA 21 [] rfl (fun w=>(w6 rfl rfl)) ?_
   intro a I;refine P1 22 [] I rfl (fun w=>(aL I rfl kG)) ?_;clear I a;intro a I;refine aG 23 (by kernel_rfl) ?_;refine eN I rfl rfl pr O ?_;clear I a O;intro b10 w O;intro a I;refine⟨.inr fun _=>(by exact⟨[_],O⟩),?_⟩;refine aG 24 (by kernel_rfl) ?_;refine dr (vs:=[_,_]) (cs':=[_,_]) I rfl rfl rfl dx (by simp[Value.oneCell']) O rfl rfl ?_;clear O;intro w O;refine⟨.inl rfl,?_⟩;refine ah (by kernel_rfl) ?_ _;refine rE 4 I ?_;clear I a;refine u1 0 (aa rfl gA) ?_;refine u1 0 (ld rfl) ?_;refine u1 0 (aa rfl dR) ?_;refine u1 0 (ld rfl) ?_;refine aM 0 0 (dT rfl rfl) ?_ ?_
   ·intro h52;refine uO 5 ?_;refine u1 0 (lS (cs:=[_,_]) rfl) ?_;intro a I;refine jl (vss:=[[_,_]]) I rfl rfl bR iC rfl rfl rfl (by simp) rfl O ?_;clear I a O;intro A55 w O;intro a I;refine cZ I rfl rfl rfl bR iC rfl (O.p 2) (O.rd.src bR (by simp[Value.oneCell'])) (by omega) (by omega) ?_;clear I a O;intro A56 c56 w hc56 O;refine uO 4 ?_;intro a I;refine cK (fun w'=>Sat _ w' _) (by kernel_rfl) (by kernel_rfl) O.drew ?_;refine rQ 2 I ?_;clear I a;refine bp 0 (fun w O=>(ix rfl rfl bR dx)) ?_;refine bp 0 (fun w O=>(aw rfl dR)) ?_;refine bp 2 (fun w O=>(an rfl dE (bI (O.p 4).rd (eB hp 1 _ rfl)))) ?_;refine bp 0 (fun w O=>(ix rfl rfl bR dx)) ?_;refine bp 0 (fun w O=>(aw rfl dR)) ?_;refine bp 0 (fun w O=>(an rfl dE (bI (O.p 3).rd (eB hq 1 _ rfl)))) ?_
    intro a I;refine K.sr I rfl rfl rfl (fun w O=>(aq (I.ev rfl) (I.ev rfl))) ?_ ?_
    ·clear I a;intro h67;intro a I;refine wpQuiet_nil ?_;clear O;intro w O;refine rE 4 I ?_;clear I a;refine u1 3 (ad rfl rfl) ?_;intro a I;replace I:=I.kp [5,6,7,8,9] rfl;rw[oK hp hq,if_pos h52,if_pos h67,←List.append_assoc]at ho;refine⟨ns.length+ms.length-(i+1+(j)),by omega,i+1,j,out++[(max p.1 q.1,min p.2 q.2)],A56,c56,?_,gL (nJ (((O.p 4).p 4).p 2)) (by simp) (by simp[gY]),by omega,by omega,by simp;omega,ho,rfl⟩;rw[List.length_append];exact I
    ·clear I a;intro h67;intro a I;refine wpQuiet_nil ?_;clear O;intro w O;refine rE 4 I ?_;clear I a;refine u1 3 (ad rfl rfl) ?_;intro a I;replace I:=I.kp [5,6,7,8,9] rfl;rw[oK hp hq,if_pos h52,if_neg h67,←List.append_assoc]at ho;refine⟨ns.length+ms.length-(i+(j+1)),by omega,i,j+1,out++[(max p.1 q.1,min p.2 q.2)],A56,c56,?_,gL (nJ (((O.p 4).p 4).p 2)) (by simp) (by simp[gY]),by omega,by omega,by simp;omega,ho,rfl⟩;rw[List.length_append];exact I
   ·intro h52;refine uO 6 ?_;intro a I;refine cK (fun w'=>Sat _ w' _) (by kernel_rfl) (by kernel_rfl) O.drew ?_;refine rQ 2 I ?_;clear I a;refine bp 0 (fun w O=>(ix rfl rfl bR dx)) ?_;refine bp 0 (fun w O=>(aw rfl dR)) ?_;refine bp 2 (fun w O=>(an rfl dE (bI (O.p 3).rd (eB hp 1 _ rfl)))) ?_;refine bp 0 (fun w O=>(ix rfl rfl bR dx)) ?_;refine bp 0 (fun w O=>(aw rfl dR)) ?_;refine bp 0 (fun w O=>(an rfl dE (bI (O.p 2).rd (eB hq 1 _ rfl)))) ?_;intro a I;refine K.sr I rfl rfl rfl (fun w O=>(aq (I.ev rfl) (I.ev rfl))) ?_ ?_
    ·clear I a;intro h67;intro a I;refine wpQuiet_nil ?_;clear O;intro w O;refine rE 4 I ?_;clear I a;refine u1 3 (ad rfl rfl) ?_;intro a I;replace I:=I.kp [5,6,7,8,9] rfl;rw[oK hp hq,if_neg h52,if_pos h67,List.nil_append]at ho;exact⟨ns.length+ms.length-(i+1+(j)),by omega,i+1,j,out,Ao,co,I,O.drop,by omega,by omega,by omega,ho,rfl⟩
    ·clear I a;intro h67;intro a I;refine wpQuiet_nil ?_;clear O;intro w O;refine rE 4 I ?_;clear I a;refine u1 3 (ad rfl rfl) ?_;intro a I;replace I:=I.kp [5,6,7,8,9] rfl;rw[oK hp hq,if_neg h52,if_neg h67,List.nil_append]at ho;exact⟨ns.length+ms.length-(i+(j+1)),by omega,i,j+1,out,Ao,co,I,O.drop,by omega,by omega,by omega,ho,rfl⟩
  ·intro h23;refine uO 9 ?_;intro a I;replace I:=I.kp [7] rfl;refine rC 7 I ?_;clear I a;intro a I;refine hQ _ _ _ ?_;refine E4 I rfl rfl ?_;rw[C2 (by omega),List.append_nil]at ho;rw[hns1,hns2,←ho];exact⟨_,_,rfl,cu O⟩
 ·intro h18;refine uO 14 ?_;intro a I;replace I:=I.kp [7] rfl;refine rC 7 I ?_;clear I a;intro a I;refine hQ _ _ _ ?_;refine E4 I rfl rfl ?_;rw[CN (by omega),List.append_nil]at ho;rw[hns1,hns2,←ho];exact⟨_,_,rfl,cu O⟩
theorem sE (W:World)(A:Option Addr)(c:Nat)(xs:List bn)(B:Option Addr)(d:Nat)(ys:List bn)(hX:ke W A c xs)(hY:ke W B d ys)(hlx:xs.length≤100000000000)(hly:ys.length≤100000000000):Calls Tryz.prog 388 #[.slice A (xs).length c,.slice B (ys).length d] W fun e w'=>∃A' c',e=.returned (.slice A' (ej (au xs) (au ys)).length c')∧Sat W w' [eO 357 A' c' (ej (au xs) (au ys))]:=by
 refine bP Tryz.func388 [0,1] ?_;intro a I;refine Fw fun Q _ hQ=>?_;have O:=Sat.start W;refine rC 9 I ?_;clear I a;refine uF rfl (kR _ B d ys (hY.sat O) (by omega)) ?_;rintro e w ⟨A1,c1,rfl,hT⟩;replace O:=O.ar hT;clear hT;have hcn1:=en ys;have hnl1:=cH ys;generalize hns1:au ys=ns at O hcn1 hnl1 ⊢;refine uF rfl (xr _ A1 c1 ns O.rd (by omega) hcn1) ?_;rintro e w ⟨A2,c2,rfl,hT⟩;replace O:=O.ar hT;clear hT;refine uF rfl (Bd _ A c xs A2 c2 (lz 1 ns) (hX.sat O) O.rd (by omega) (Nat.le_trans (pM ns 1) (by omega))) ?_;rintro e w ⟨A3,c3,rfl,hT⟩;replace O:=O.ar hT;clear hT;refine uO 4 ?_;intro a I;refine hQ _ _ _ ?_;refine E4 I rfl rfl ?_;rw[vh (x4 hcn1)]at O ⊢;rw[hns1];exact⟨_,_,rfl,cu O⟩
theorem xx (W:World)(A:Option Addr)(c:Nat)(xs:List bn)(B:Option Addr)(d:Nat)(ys:List bn)(hX:ke W A c xs)(hY:ke W B d ys)(hlx:xs.length≤100000000000)(hly:ys.length≤100000000000):Calls Tryz.prog 370 #[.slice A (xs).length c,.slice B (ys).length d] W fun e w'=>e=.returned (.bool (decide (ej (au xs) (au ys)=[])))∧Sat W w' []:=by
 refine bP Tryz.func370 [0,1] ?_;have O:=Sat.start W;refine uC 9 ?_;refine uF rfl (sE _ A c xs B d ys (hX.sat O) (hY.sat O) hlx hly) ?_;rintro e w ⟨A3,c3,rfl,hT⟩;replace O:=O.ar hT;clear hT;refine u1 0 (ak rfl bR) ?_;refine u1 4 (aY rfl rfl) ?_;refine aU ?_;refine⟨?_,O.nil⟩
 congr 2
 rw[decide_eq_decide];constructor
 ·intro h;exact List.eq_nil_of_length_eq_zero (by omega)
 ·intro h;rw[h];rfl
def gw (vec:List Int)(p:Option aN)(s:aN):Bool:=decide (0≤s.rep) && decide (s.rep<16) && decide (s.lo≤s.hi) && decide (s.hi≤1000000000) && match p with
 | none=>decide (av vec s.rep.toNat+2≤s.lo)
 | some q=>decide (q.rep≤s.rep) && (if q.rep=s.rep then decide (q.hi+2≤s.lo) else decide (av vec s.rep.toNat+2≤s.lo))
structure A6 (p:aK):Prop where
 len:p.vec.length≤16
 vec:∀v∈p.vec,0≤v∧v≤1000000000
 ab:kK (gw p.vec) none p.ab=true
structure zr (p:aK):Prop extends A6 p where
 last:∀v,p.vec.getLast?=some v→v≠0
theorem du {v:List Int}(h:∀x∈v,0≤x∧x≤1000000000)(r:Nat):0≤av v r∧av v r≤1000000000:=by
 unfold av;cases e:v[r]? with
 | none=>simp
 | some x=>exact h x (List.mem_of_getElem? e)
theorem qg {vec:List Int}:∀ {c:List aN} {p:Option aN},kK (gw vec) p c=true→∀s∈c,0≤s.rep∧s.rep<16∧s.lo≤s.hi∧s.hi≤1000000000
 | s :: c, p, h, t, ht => by
   rw[kK,Bool.and_eq_true]at h;rcases List.mem_cons.1 ht with rfl | ht
   ·
    have h1:=h.1;unfold gw at h1;simp only[Bool.and_eq_true,decide_eq_true_eq]at h1;exact⟨h1.1.1.1.1,h1.1.1.1.2,h1.1.1.2,h1.1.2⟩
   ·
    exact qg h.2 t ht
theorem qN {vec:List Int}(hv:∀r,0≤av vec r):∀ {c:List aN} {q:aN},kK (gw vec) (some q) c=true→q.lo≤q.hi→av vec q.rep.toNat+2≤q.lo→∀s∈c,q.rep≤s.rep∧(q.rep=s.rep→q.hi+2≤s.lo)∧av vec s.rep.toNat+2≤s.lo
 | s :: c, q, h, hq, hq2, t, ht => by
   rw[kK,Bool.and_eq_true]at h;have h1:=h.1;unfold gw at h1;simp only[Bool.and_eq_true,decide_eq_true_eq]at h1
   have hs:av vec s.rep.toNat+2≤s.lo:=by
    by_cases e:q.rep=s.rep
    ·
     have:=h1.2.2;rw[if_pos e]at this;simp at this;rw[←e];omega
    ·
     have:=h1.2.2;rw[if_neg e]at this;simpa using this
   have hs2:q.rep=s.rep→q.hi+2≤s.lo:=fun e=>by have:=h1.2.2;rw[if_pos e]at this;simpa using this
   rcases List.mem_cons.1 ht with rfl | ht
   ·
    exact⟨h1.2.1,hs2,hs⟩
   ·
    obtain⟨a,b,d⟩:=qN hv h.2 h1.1.1.2 hs t ht;refine⟨by omega,fun e=>?_,d⟩;have e1:q.rep=s.rep:=by omega
    have:=hs2 e1;have:=b (by omega);omega
theorem tl {vec:List Int}(hv:∀r,0≤av vec r){c:List aN}(h:kK (gw vec) none c=true):∀s∈c,av vec s.rep.toNat+2≤s.lo:=by
 cases c with
 | nil=>intro s hs;cases hs
 | cons s c =>
   rw[kK,Bool.and_eq_true]at h;have h1:=h.1;unfold gw at h1;simp only[Bool.and_eq_true,decide_eq_true_eq]at h1;intro t ht;rcases List.mem_cons.1 ht with rfl | ht
   ·
    exact h1.2
   ·
    exact (qN hv h.2 h1.1.1.2 h1.2 t ht).2.2
theorem mX (s:aN)(c:List aN)(r:Nat):bQ (s::c) r=(if s.rep=(r:Int) then [(s.lo,s.hi)] else [])++bQ c r:=by
 unfold bQ;rw[List.filterMap_cons]
 split<;>rename_i h<;>split at h<;>simp_all
theorem nZ {c:List aN}{r:Nat}{x:bn}(h:x∈bQ c r):∃s∈c,s.rep=(r:Int)∧x=(s.lo,s.hi):=by
 obtain⟨s,hs,h⟩:=List.mem_filterMap.1 h
 split at h
 ·
  rename_i e;cases h;exact⟨s,hs,e,rfl⟩
 ·
  cases h
theorem sA {vec:List Int}(hv:∀r,0≤av vec r):∀ {c:List aN} {p:Option aN},kK (gw vec) p c=true→(∀s∈c,av vec s.rep.toNat+2≤s.lo)→∀r,can (bQ c r)
 | [],_,_,_,r=>trivial
 | s :: c, p, h, hb, r => by
   have hsp:=qg h s (by simp);rw[kK,Bool.and_eq_true]at h;have ih:=sA hv h.2 (fun t ht=>hb t (by simp[ht])) r;rw[mX]
   by_cases e:s.rep=(r:Int)
   ·
    rw[if_pos e];have hs:=hb s (by simp);have:=hv s.rep.toNat;refine⟨by simp only;omega,by simp only;omega,by rw[dH];simp only;omega,fun x hx=>?_,ih⟩;obtain⟨t,ht,h1,rfl⟩:=nZ hx;have:=(qN hv h.2 hsp.2.2.1 hs t ht).2.1 (by omega);simp only;omega
   ·
    rw[if_neg e];exact ih
def pC (p:aK)(r:Nat):List bn:=(if 0<av p.vec r then [(1,av p.vec r)] else [])++bQ p.ab r
theorem vl {p:aK}(h:A6 p)(r:Nat):can (pC p r):=by
 have hv:=fun r=>du h.vec r
 have hb:=tl (fun r=>(hv r).1) h.ab;have hc:=sA (fun r=>(hv r).1) h.ab hb r;unfold pC
 split
 ·
  rename_i h0;refine⟨Int.le_refl _,by simp only;omega,by rw[dH];have:=(hv r).2;simp only;omega,fun x hx=>?_,hc⟩;obtain⟨s,hs,e,rfl⟩:=nZ hx;have:=hb s hs;rw[e]at this;simp at this;simp only;omega
 ·
  exact hc
theorem sB {p:aK}(h:A6 p)(r:Nat):aO p r=pC p r:=by
 refine (nM (vl h r) fun n=>?_).symm;constructor
 ·
  intro hn;have hb:=(vl h r).bounds hn;refine⟨hb.1,hb.2,?_⟩;unfold pC at hn;unfold cO;rw[dK]at *;rcases hn with hn | hn
  ·
   left
   split at hn
   ·
    rename_i h0;unfold av at h0 hn;cases e:p.vec[r]? with
    | none=>rw[e]at h0;simp at h0
    | some x=>rw[e]at hn;simpa using hn
   ·
    simp[bF]at hn
  ·
   exact .inr hn
 ·
  rintro ⟨h1,h2,hn⟩;unfold pC;unfold cO at hn;rw[dK]at *;rcases hn with hn | hn
  ·
   left
   cases e:p.vec[r]? with
   | none=>rw[e]at hn;simp[bF]at hn
   | some x =>
     rw[e]at hn;have hx:av p.vec r=x:=by unfold av;rw[e]
     rw[hx];simp[bF]at hn;rw[if_pos (by omega)];simp[bF];omega
  ·
   exact .inr hn
theorem wT {p:aK}(h:A6 p)(r:Nat):aR (pC p r)=(av p.vec r,bQ p.ab r):=by
 have hv:=fun r=>du h.vec r
 unfold pC
 split
 ·
  rfl
 ·
  rename_i h0;have h0:av p.vec r=0:=by have:=(hv r).1;omega
  rw[List.nil_append,h0];cases e:bQ p.ab r with
  | nil=>rfl
  | cons x l =>
    rw[gf];have hx:x∈bQ p.ab r:=by rw[e];simp
    obtain⟨s,hs,e2,rfl⟩:=nZ hx;have:=tl (fun r=>(hv r).1) h.ab s hs;rw[e2]at this;simp at this;rw[if_neg (by simp only;omega)]
theorem ey {v:List Int}{r:Nat}(h:v.length≤r):av v r=0:=by unfold av;rw[List.getElem?_eq_none h]
theorem tC {v:List Int}(hv:∀x∈v,0≤x∧x≤1000000000)(hl:∀x,v.getLast?=some x→x≠0){f:Nat→Int}(hf:∀r,f r=av v r):∀k,v.length≤k→cF f k=v.length
 | 0, h => by have : v.length = 0 := by omega
              rw[this];rfl
 | k + 1, h => by
   rw[cF]
   by_cases e:v.length=k+1
   ·
    have hk:k<v.length:=by omega
    have h1:v.getLast?=some v[k]:=by rw[List.getLast?_eq_getElem?,e];simp[hk]
    have h2:=hl _ h1;have h3:=hv v[k] (List.getElem_mem hk);have h4:f k=v[k]:=by rw[hf,av,List.getElem?_eq_getElem hk]
    rw[if_pos (by omega),e]
   ·
    have h4:f k=0:=by rw[hf,ey (by omega)]
    rw[if_neg (by omega)];exact tC hv hl hf k (by omega)
theorem nV {α β:Type _}{l:List α}{f g:α→List β}(h:∀x∈l,f x=g x):l.flatMap f=l.flatMap g:=by
 induction l with
 | nil=>rfl
 | cons x l ih=>rw[List.flatMap_cons,List.flatMap_cons,h x (by simp),ih fun y hy=>h y (by simp[hy])]
theorem uq:∀(c:List aN) (a k:Nat),(∀s∈c,(a:Int)≤s.rep∧s.rep<(a+k:Nat))→c.Pairwise (fun s t=>s.rep≤t.rep)→(List.range' a k).flatMap (fun r=>(bQ c r).map fun x=>(⟨(r:Int),x.1,x.2⟩:aN))=c
 | [], a, k, _, _ => by
   rw[List.flatMap_eq_nil_iff];intro r _;rfl
 | s :: c, a, k, h, hp => by
   obtain⟨j,hj⟩:∃j:Nat,s.rep=(j:Int):=⟨s.rep.toNat,by have:=(h s (by simp)).1;omega⟩;have hs:=h s (by simp);have hle:=(List.pairwise_cons.1 hp).1
   have e1:List.range' a k=List.range' a (j-a)++(List.range' j 1++List.range' (j+1) (a+k-j-1)):=by
    have h1:k=(j-a)+(1+(a+k-j-1)):=by omega
    have h2:a+1 * (j-a)=j:=by omega
    conv=>lhs;rw[h1,←List.range'_append,h2,←List.range'_append,Nat.mul_one]
   have e2:List.range' j (a+k-j)=List.range' j 1++List.range' (j+1) (a+k-j-1):=by
    have h1:a+k-j=1+(a+k-j-1):=by omega
    conv=>lhs;rw[h1,←List.range'_append,Nat.mul_one]
   have ih:=uq c j (a+k-j) (fun t ht=>by have:=hle t ht;have:=(h t (by simp[ht])).2;omega) (List.pairwise_cons.1 hp).2;rw[e1,List.flatMap_append]
   have z:(List.range' a (j-a)).flatMap (fun r=>(bQ (s::c) r).map fun x=>(⟨(r:Int),x.1,x.2⟩:aN))=[]:=by
    rw[List.flatMap_eq_nil_iff];intro r hr;rw[List.mem_range'_1]at hr;rw[List.map_eq_nil_iff];refine List.filterMap_eq_nil_iff.2 fun t ht=>?_;rw[if_neg];rcases List.mem_cons.1 ht with rfl | ht
    ·
     omega
    ·
     have:=hle t ht;omega
   rw[z,List.nil_append,List.flatMap_append];rw[e2,List.flatMap_append]at ih
   have y:(List.range' (j+1) (a+k-j-1)).flatMap (fun r=>(bQ (s::c) r).map fun x=>(⟨(r:Int),x.1,x.2⟩:aN))=(List.range' (j+1) (a+k-j-1)).flatMap (fun r=>(bQ c r).map fun x=>(⟨(r:Int),x.1,x.2⟩:aN)):=by
    refine nV fun r hr=>?_;rw[List.mem_range'_1]at hr;rw[mX,if_neg (by omega),List.nil_append]
   rw[y];simp only[List.range'_one,List.flatMap_cons,List.flatMap_nil,List.append_nil]at ih ⊢;rw[mX,if_pos hj,List.map_append,List.append_assoc,ih,←hj]
   rfl
theorem zy {vec:List Int}(hv:∀r,0≤av vec r):∀ {c:List aN} {p:Option aN},kK (gw vec) p c=true→(∀s∈c,av vec s.rep.toNat+2≤s.lo)→c.Pairwise (fun s t=>s.rep≤t.rep)
 | [],_,_,_=>.nil
 | s :: c, p, h, hb => by
   have hsp:=qg h s (by simp);rw[kK,Bool.and_eq_true]at h;exact .cons (fun t ht=>(qN hv h.2 hsp.2.2.1 (hb s (by simp)) t ht).1) (zy hv h.2 fun t ht=>hb t (by simp[ht]))
theorem zh {p:aK}(h:zr p):gU p=p:=by
 have hw:=h.toA6;have hv:=fun r=>du hw.vec r
 have hl:∀r,bh (aO p) r=av p.vec r:=fun r=>by unfold bh;rw[sB hw,wT hw]
 have hr:∀r,aP (aO p) r=(bQ p.ab r).map fun x=>(⟨(r:Int),x.1,x.2⟩:aN):=fun r=>by unfold aP;rw[sB hw,wT hw]
 unfold gU fZ
 have e1:(List.range (cF (bh (aO p)) 16)).map (bh (aO p))=p.vec:=by
  rw[tC hw.vec h.last hl 16 hw.len];refine List.ext_getElem? fun i=>?_;rw[List.getElem?_map]
  by_cases hi:i<p.vec.length
  ·
   rw[List.getElem?_range hi,List.getElem?_eq_getElem hi];simp only[Option.map_some];rw[hl,av,List.getElem?_eq_getElem hi]
  ·
   rw[List.getElem?_eq_none (by simpa using hi),List.getElem?_eq_none (by omega)];rfl
 have e2:(List.range 16).flatMap (aP (aO p))=p.ab:=by
  rw[List.range_eq_range',nV (g:=fun r=>(bQ p.ab r).map fun x=>(⟨(r:Int),x.1,x.2⟩:aN)) fun r _=>hr r];exact uq p.ab 0 16 (fun s hs=>by have:=qg hw.ab s hs;omega) (zy (fun r=>(hv r).1) hw.ab (tl (fun r=>(hv r).1) hw.ab))
 rw[e1,e2]
theorem zS {vec:List Int}{r:Nat}(hr:r<16):∀ {l:List bn} {p:Option aN} {t:List aN},can l→(∀s∈l,av vec r+2≤s.1)→(∀q,p=some q→q.rep≤(r:Int)∧(q.rep=(r:Int)→∀s∈l,q.hi+2≤s.1))→
 (∀p':Option aN,(∀q,p'=some q→q.rep≤(r:Int))→kK (gw vec) p' t=true)→kK (gw vec) p (l.map (fun s=>(⟨(r:Int),s.1,s.2⟩:aN))++t)=true
 | [],p,t,_,_,hp,ht=>ht p fun q hq=>(hp q hq).1
 | s :: l, p, t, hl, hv, hp, ht => by
   rw[List.map_cons,List.cons_append,kK,Bool.and_eq_true];refine⟨?_,zS hr hl.tail (fun x hx=>hv x (by simp[hx])) (fun q hq=>?_) ht⟩
   ·
    have h2:=hl.2.1;have h3:=hl.2.2.1;rw[dH]at h3;have hv0:=hv s (by simp);unfold gw;simp only[Bool.and_eq_true,decide_eq_true_eq,Int.toNat_natCast];refine⟨⟨⟨⟨by omega,by omega⟩,h2⟩,h3⟩,?_⟩;cases p with
    | none=>simpa using hv0
    | some q =>
      obtain⟨a,b⟩:=hp q rfl;simp only[Bool.and_eq_true,decide_eq_true_eq];refine⟨a,?_⟩
      split
      ·
       rename_i e;simpa using b e s (by simp)
      ·
       simpa using hv0
   ·
    cases hq;refine⟨Int.le_refl _,fun _ x hx=>?_⟩;have:=hl.2.2.2.1 x hx;simp only;omega
theorem wL {vec:List Int}{f:Nat→List bn}(hf:∀r,can (f r))(hv:∀r,r<16→av vec r=(aR (f r)).1):∀(k a:Nat),a+k=16→∀p:Option aN,(∀q,p=some q→q.rep<(a:Int))→kK (gw vec) p ((List.range' a k).flatMap (aP f))=true
 | 0,a,_,p,_=>by simp[kK]
 | k + 1, a, ha, p, hp => by
   rw[List.range'_succ,List.flatMap_cons];obtain⟨_,_,hc,hb,_⟩:=nK (hf a);refine zS (by omega) hc (fun s hs=>by rw[hv a (by omega)];have:=hb s hs;omega) (fun q hq=>⟨by have:=hp q hq;omega,fun e=>by have:=hp q hq;omega⟩) fun p' hp'=>?_;exact wL hf hv k (a+1) (by omega) p' fun q hq=>by have:=hp' q hq;omega
theorem vd {f:Nat→List bn}(hf:∀r,can (f r)):zr (fZ f):=by
 have hvec:∀r,r<16→av (fZ f).vec r=(aR (f r)).1:=fun r hr=>by
  unfold fZ av;simp only[List.getElem?_map]
  by_cases h:r<cF (bh f) 16
  ·
   rw[List.getElem?_range h];rfl
  ·
   rw[List.getElem?_eq_none (by simpa using h)];have h1:=pO (bh f) 16 r (by omega) hr;have h2:=(nK (hf r)).1;unfold bh at h1;show 0=_;omega
 refine⟨⟨?_,fun v hv=>?_,?_⟩,fun v hv=>?_⟩
 ·
  show ((List.range _).map _).length≤16;have:=my (bh f) 16;simpa using this
 ·
  obtain⟨r,_,rfl⟩:=List.mem_map.1 hv;have h:=nK (hf r);rw[dH]at h;exact⟨h.1,h.2.1⟩
 ·
  show kK _ none ((List.range 16).flatMap (aP f))=true;rw[List.range_eq_range'];exact wL hf hvec 16 0 rfl none fun q hq=>by cases hq
 ·
  have hv:((List.range (cF (bh f) 16)).map (bh f)).getLast?=some v:=hv;rw[List.getLast?_eq_getElem?,List.getElem?_map]at hv;simp only[List.length_map,List.length_range]at hv;obtain⟨j,hj,rfl⟩:=Option.map_eq_some_iff.1 hv
  have h0:0<cF (bh f) 16:=by
   have:=(List.getElem?_eq_some_iff.1 hj).1;simp at this;omega
  rw[List.getElem?_range (by omega)]at hj;cases hj;have:=wg (bh f) 16 h0;omega
theorem i6 (p:aK):zr (gU p):=vd fun r=>bx p r
theorem DU {p:aK}:gU p=p↔zr p:=⟨fun h=>h ▸ i6 p,zh⟩
theorem fB {p:aK}:bL p=true↔zr p:=by unfold bL;rw[decide_eq_true_eq,DU]
theorem uM {a b:aK}(h1:a.vec=b.vec)(h2:a.ab=b.ab):a=b:=by cases a;cases b;simp only at h1 h2;subst h1 h2;rfl
def Loc.v {α:Type}(l:Loc α):Value:=.slice l.a l.xs.length l.c
def Loc.jm (e:Nat)(l:Loc bn):As:=eO e l.a l.c l.xs
abbrev j5 (ty t:Nat)(ls:List (Loc bn)):As:=aV t (.cells (ls.map Loc.v).toArray ty (0,0))
theorem qc {ls:List (Loc bn)}{i e:Nat}{l:Loc bn}(h:ls[i]?=some l):(ls.map (Loc.jm e))[i]?=some (Loc.jm e l):=by rw[List.getElem?_map,h];rfl
theorem gV {W w:World}{L:List As}{ty t i k:Nat}{ls:List (Loc bn)}{l:Loc bn}(s:Sat W w (j5 ty t ls::L))(h:ls[i]?=some l)(hk:k=i:=by simp):w.cell? ⟨t,k,none⟩=some (.slice l.a l.xs.length l.c):=by
 subst hk;exact s.o5 (by simp[h,Loc.v])
theorem sT {W w:World}{L:List As}{e i:Nat}{ls:List (Loc bn)}{l l':Loc bn}(h:ls[i]?=some l)(s:Sat W w (Loc.jm e l'::br ((ls.map (Loc.jm e)).eraseIdx i)::L)):Sat W w (br ((ls.set i l').map (Loc.jm e))::L):=by
 rw[List.map_set];exact Sat.vt (by rw[List.length_map];exact (List.getElem?_eq_some_iff.1 h).1) s
theorem rl {W w:World}{L:List As}{e i:Nat}{ls:List (Loc bn)}{l:Loc bn}(s:Sat W w (br (ls.map (Loc.jm e))::L))(h:ls[i]?=some l):ke w l.a l.c l.xs:=(s.dJ (qc h)).rd
section
variable {P:Program} {ops:Array Oper} {a:Act} {n:Nat} {E:Env} {w W:World} {rest:List Oper} {Q:Exit→Act→World→Prop} {L:List As} {t ty:TypeId} {ps:String} {af:Array Edge} {x y:Operand} {ds:List Deferred}
theorem eT {q:Nat}{K:Act→World→Prop}{tb i t':Nat}{p:Addr}{v:Value}{ls:List (Loc bn)}{l:Loc bn}(l':Loc bn)(I:Ag a n E ds)(hi':ops[q]?=some ⟨none,.store t x y,ty,ps,af,none⟩)(hx:fH E x=some (.pointer (some p)))(hp:p=⟨tb,i,none⟩)(hy:fH E y=some v)(hv:v=l'.v)(ht:flat P t=true)(h1:(P.info? t).map (·.size)=some 1)
 (s:Sat W w (j5 t' tb ls::L)) (hi:ls[i]?=some l) (k:∀w',Sat W w' (j5 t' tb (ls.set i l')::L)→K a w'):wpOp P ops Q q K a w:=by
 subst hp hv;refine eW I hi' hx hy ht h1 rfl s (u:=l.v) (by rw[lW];simp[hi]) fun w' h=>k w' ?_;rw[j5,List.map_set];simpa using h
end
def gl (ps:List aK)(r:Nat):List bn:=ps.flatMap fun p=>cO p r
def gT (ls:List (Loc bn))(f:Nat→List bn):Prop:=ls.length=16∧∀r l,ls[r]?=some l→l.xs=f r
theorem gT.get {ls:List (Loc bn)}{f:Nat→List bn}(h:gT ls f){r:Nat}(hr:r<16):∃A c,ls[r]?=some ⟨A,c,f r⟩:=by
 have hl:r<ls.length:=by rw[h.1];exact hr
 have:=h.2 r ls[r] (List.getElem?_eq_getElem hl);refine⟨ls[r].a,ls[r].c,?_⟩;rw[List.getElem?_eq_getElem hl,←this]
theorem gT.set {ls:List (Loc bn)}{f g:Nat→List bn}(h:gT ls f){r:Nat}{l:Loc bn}(hl:l.xs=g r)(hg:∀k,k<16→k≠r→g k=f k):gT (ls.set r l) g:=by
 refine⟨by rw[List.length_set];exact h.1,fun k x hx=>?_⟩;have hk:k<16:=by have:=(List.getElem?_eq_some_iff.1 hx).1;rw[List.length_set,h.1]at this;exact this
 by_cases e:r=k
 ·
  subst e;rw[List.getElem?_set_self (by rw[h.1];exact hk)]at hx;cases hx;exact hl
 ·
  rw[List.getElem?_set_ne e]at hx;rw[h.2 k x hx,hg k hk (Ne.symm e)]
theorem gT.congr {ls:List (Loc bn)}{f g:Nat→List bn}(h:gT ls f)(hg:∀k,k<16→f k=g k):gT ls g:=⟨h.1,fun r l hl=>by
 have hr:r<16:=by have:=(List.getElem?_eq_some_iff.1 hl).1;rw[h.1]at this;exact this
 rw[h.2 r l hl,hg r hr]⟩
def nB (v:List Int)(j r:Nat):List bn:=if r<j then (match v[r]? with | some x=>[(1,x)] | none=>[]) else []
theorem Cl {v:List Int}{j r:Nat}(hr:r<16)(hj:min v.length 16≤j):nB v j r=match v[r]? with | some x=>[(1,x)] | none=>[]:=by
 unfold nB
 split
 ·
  rfl
 ·
  rename_i h;rw[List.getElem?_eq_none (by omega)]
theorem Hx (p:aK){r j k:Nat}(hr:r<16)(hj:min p.vec.length 16≤j)(hk:p.ab.length≤k):nB p.vec j r++bQ (p.ab.take k) r=cO p r:=by
 unfold cO;rw[Cl hr hj,List.take_of_length_le hk];cases p.vec[r]?<;>rfl
theorem Au {v:List Int}{j:Nat}{x:Int}(h:v[j]?=some x):(∀r,r≠j→nB v (j+1) r=nB v j r)∧nB v (j+1) j=nB v j j++[(1,x)]:=by
 unfold nB;refine⟨fun r hr=>?_,by simp[h]⟩
 by_cases h1:r<j
 ·
  rw[if_pos h1,if_pos (by omega)]
 ·
  rw[if_neg h1,if_neg (by omega)]
theorem Ba {c:List aN}{k:Nat}{s:aN}(h:c[k]?=some s)(r:Nat):bQ (c.take (k+1)) r=bQ (c.take k) r++if s.rep=(r:Int) then [(s.lo,s.hi)] else []:=by
 rw[List.take_add_one,h,oe]
 congr 1
 show bQ [s] r=_;unfold bQ
 by_cases e:s.rep=(r:Int)
 ·
  simp[e]
 ·
  simp[e]
theorem AV (ps:List aK)(p:aK)(r:Nat):gl (ps++[p]) r=gl ps r++cO p r:=by simp[gl]
theorem ed (p:aK)(r:Nat):(cO p r).length≤p.ab.length+1:=by
 unfold cO bQ;rw[List.length_append];have:=List.length_filterMap_le (fun s:aN=>if s.rep=(r:Int) then some (s.lo,s.hi) else none) p.ab
 split<;>simp<;>omega
def cP (ps:List aK):Nat:=(ps.map fun p=>p.ab.length+1).sum
theorem kA (ps:List aK)(r:Nat):(gl ps r).length≤cP ps:=by
 induction ps with
 | nil=>simp[gl,cP]
 | cons p ps ih =>
   have:=ed p r;unfold gl cP at *;simp only[List.flatMap_cons,List.length_append,List.map_cons,List.sum_cons];omega
theorem wS {ps:List aK}{i:Nat}{p:aK}(h:ps[i]?=some p):cP (ps.take i)+(p.ab.length+1)≤cP ps:=by
 conv=>rhs;rw[←List.take_append_drop i ps]
 have e:ps.drop i=p::ps.drop (i+1):=by
  have hi:=List.getElem?_eq_some_iff.1 h;rw[List.drop_eq_getElem_cons hi.1,hi.2]
 rw[e];unfold cP;rw[List.map_append,List.sum_append,List.map_cons,List.sum_cons];omega
def wA:Loc bn:=⟨none,0,[]⟩
theorem sg {W w:World}{L:List As}(e:Nat)(s:Sat W w L):∀n,Sat W w (br ((List.replicate n wA).map (Loc.jm e))::L)
 | 0=>s.lg
 | n+1=>((sg e s n).aW e 2).oL
theorem so:gT (List.replicate 16 wA) (fun _=>[]):=⟨by simp,fun r l h=>by
 have:=List.mem_of_getElem? h;rw[List.eq_of_mem_replicate this];rfl⟩
def dt (T:List aK)(d:aK)(j k r:Nat):List bn:=gl T r++(nB d.vec j r++bQ (d.ab.take k) r)
theorem rG (T:List aK)(d:aK)(r:Nat):dt T d 0 0 r=gl T r:=by simp[dt,nB,bQ]
theorem mJ {T:List aK}{d:aK}{j:Nat}{v:Int}(h:d.vec[j]?=some v):(∀r,r≠j→dt T d (j+1) 0 r=dt T d j 0 r)∧dt T d (j+1) 0 j=dt T d j 0 j++[(1,v)]:=by
 obtain⟨h1,h2⟩:=Au h;unfold dt;refine⟨fun r hr=>by rw[h1 r hr],by rw[h2];simp[bQ]⟩
theorem fb {T:List aK}{d:aK}{j k:Nat}{s:aN}(h:d.ab[k]?=some s)(r:Nat):dt T d j (k+1) r=dt T d j k r++if s.rep=(r:Int) then [(s.lo,s.hi)] else []:=by
 unfold dt;rw[Ba h r];simp only[List.append_assoc]
theorem nW {T:List aK}{d:aK}{r k:Nat}(hr:r<16)(hk:d.ab.length≤k):dt T d (min d.vec.length 16) k r=gl (T++[d]) r:=by
 unfold dt;rw[AV,Hx d hr (Nat.le_refl _) hk]
theorem CR (v:List Int)(j r:Nat):(nB v j r).length≤1:=by
 unfold nB
 split
 ·
  split<;>simp
 ·
  simp
theorem zm (c:List aN)(r:Nat):(bQ c r).length≤c.length:=List.length_filterMap_le _ _
theorem ow (T:List aK)(d:aK)(j k r:Nat):(dt T d j k r).length≤cP T+(d.ab.length+1):=by
 unfold dt;have h1:=kA T r;have h2:=zm (d.ab.take k) r;have h3:=CR d.vec j r;rw[List.length_take]at h2;rw[List.length_append,List.length_append];omega
theorem kQ {ps:List PL}{i:Nat}{p:PL}(h:ps[i]?=some p):(ps.map PL.d)[i]?=some p.d:=by rw[List.getElem?_map,h];rfl
theorem CE {W0 W w:World}{L0 M:List As}{ty t i k:Nat}{ls:List (Loc bn)}{l:Loc bn}(s0:Sat W0 W (j5 ty t ls::L0))(s:Sat W w M)(h:ls[i]?=some l)(hk:k=i:=by simp):w.cell? ⟨t,k,none⟩=some (.slice l.a l.xs.length l.c):=by
 have h0:=gV s0 h hk;rw[s.below.cell (World.block_lt_of_cell? _ _ h0)];exact h0
theorem Ht {f:Nat→Int}{r:Nat}(hr:r<16)(x:Int)(hx:x=f r):(((List.range r).map f++List.replicate (16-r) 0).map (Value.int .i64)).set r (.int .i64 x)=((List.range (r+1)).map f++List.replicate (16-(r+1)) 0).map (Value.int .i64):=by
 subst hx;rw[show Value.int .i64 (f r)=Value.int .i64 (f r) from rfl,←List.map_set]
 congr 1
 rw[List.set_append_right _ _ (by simp),List.range_succ,List.map_append,List.append_assoc]
 congr 1
 obtain⟨k,hk⟩:∃k,16-r=k+1:=⟨16-r-1,by omega⟩;rw[hk,show 16-(r+1)=k from by omega,List.replicate_succ];simp
theorem mx (f:Nat→List bn)(r:Nat):(List.range (r+1)).flatMap (aP f)=(List.range r).flatMap (aP f)++aP f r:=by
 rw[List.range_succ,List.flatMap_append];simp
def jX (r:Nat)(x:bn):aN:=⟨(r:Int),x.1,x.2⟩
theorem ql (f:Nat→List bn)(r:Nat):aP f r=(aR (f r)).2.map (jX r):=rfl
theorem wa {w:World}{A:Option Addr}{n c m:Nat}{cs:List Value}(h:Rd w 1 (.slice A n c) n cs)(hm:m≤n):Rd w 1 (.slice (ja A c 1 0) m c) m (cs.take m):=by
 have:=Rd.F8 h m hm;rwa[Nat.mul_one]at this
theorem FW {f:Nat→Int}{r:Nat}(hr:r<16):(((List.range r).map f++List.replicate (16-r) 0).map (Value.int .i64))[r]?=some (.int .i64 0):=by
 rw[List.getElem?_map,List.getElem?_append_right (by simp)];obtain⟨k,hk⟩:∃k,16-r=k+1:=⟨16-r-1,by omega⟩;rw[hk];simp[List.replicate_succ]
theorem BS {f:Nat→Int}{r:Nat}(hr:r≤16):(((List.range r).map f++List.replicate (16-r) 0).map (Value.int .i64)).length=16:=by simp;omega
theorem zQ {f:Nat→Int}{m:Nat}(hm:m≤16):(((List.range 16).map f++List.replicate (16-16) 0).map (Value.int .i64)).take m=((List.range m).map f).map (Value.int .i64):=by
 rw[Nat.sub_self,List.replicate_zero,List.append_nil,←List.map_take,←List.map_take,List.take_range,Nat.min_eq_left hm]
theorem rz {fr:Nat→List bn}{B:Nat}(hb:∀r,r<16→(fr r).length≤B):∀r,r≤16→((List.range r).flatMap (aP fun r=>au (fr r))).length≤r * B
 | 0,_=>by simp
 | r + 1, h => by
   have h1:=rz hb r (by omega);have h2:=hb r (by omega);have h3:=cH (fr r);have h4:=lP (au (fr r));rw[mx,ql,List.length_append,List.length_map,Nat.add_mul];omega
theorem s5 (p:aK):∀r,0≤((List.range r).map fun r=>cY (aO p r)).sum∧((List.range r).map fun r=>cY (aO p r)).sum≤(r:Int) * 1000000000
 | 0=>by simp
 | r + 1 => by
   have h:=s5 p r;have h1:=(iS (bx p r)).1
   have h2:cY (aO p r)≤1000000000:=by
    rcases uf (bx p r) (Int.le_refl 0) (fun s hs=>by have:=((bx p r).each s hs).1;omega) with h | h
    ·
     rw[dH]at h;omega
    ·
     rw[h];decide
   rw[List.range_succ,List.map_append,List.sum_append];simp only[List.map_cons,List.map_nil,List.sum_cons,List.sum_nil];omega
theorem rD (p:aK)(r:Nat):((List.range (r+1)).map fun r=>cY (aO p r)).sum=((List.range r).map fun r=>cY (aO p r)).sum+cY (au (cO p r)):=by
 rw[List.range_succ,List.map_append,List.sum_append];simp[aO]
theorem CY {a b:aK}{r:Nat}(hr:r<16)(h:¬ej (au (cO a r)) (au (cO b r))=[]):cj a b=false:=by
 unfold cj;rw[List.all_eq_false];exact⟨r,List.mem_range.2 hr,fun hd=>h (of_decide_eq_true hd)⟩
theorem Bk {a b:aK}(h:∀r,r<16→ej (au (cO a r)) (au (cO b r))=[]):cj a b=true:=by
 unfold cj;rw[List.all_eq_true];intro r hr;exact decide_eq_true (h r (List.mem_range.1 hr))
theorem zL {xs:List bn}(y:List bn)(h:xs.length=0):ej (au xs) y=[]:=by
 obtain rfl:=List.eq_nil_of_length_eq_zero h;show dP (au []) _=[];simp[au,dP]
def kU (l:List gk)(r:Nat):List bn:=l.filterMap fun d=>if dG d.rep d.num=true∧d.rep=(r:Int) then some (d.num,d.num) else none
theorem oA {l:List gk}{i:Nat}{d:gk}(h:l[i]?=some d)(r:Nat):kU (l.take (i+1)) r=kU (l.take i) r++if dG d.rep d.num=true∧d.rep=(r:Int) then [(d.num,d.num)] else []:=by
 rw[List.take_add_one,h];unfold kU;rw[List.filterMap_append]
 congr 1
 by_cases e:dG d.rep d.num=true∧d.rep=(r:Int)
 ·
  rw[if_pos e];simp only[Option.toList,List.filterMap_cons,List.filterMap_nil,if_pos e]
 ·
  rw[if_neg e];simp only[Option.toList,List.filterMap_cons,List.filterMap_nil,if_neg e]
theorem tp (l:List gk)(r:Nat):(kU l r).length≤l.length:=List.length_filterMap_le _ _
def nq (fr:Nat→List bn):aK:=fZ fun r=>au (fr r)
theorem CF (l:List gk):nq (kU l)=lX l:=by
 unfold nq lX gU aO;refine pL fun r hr=>zb fun n h1 h2=>?_;unfold cO;simp only[List.getElem?_nil,List.nil_append];unfold kU bQ bF;constructor
 ·
  rintro ⟨x,hx,h3,h4⟩;obtain⟨d,hd,he⟩:=List.mem_filterMap.1 hx
  split at he
  ·
   rename_i hc;cases he;exact⟨_,List.mem_filterMap.2 ⟨⟨d.rep,d.num,d.num⟩,List.mem_map.2 ⟨d,hd,rfl⟩,if_pos hc.2⟩,h3,h4⟩
  ·
   cases he
 ·
  rintro ⟨x,hx,h3,h4⟩;obtain⟨s,hs,he⟩:=List.mem_filterMap.1 hx;obtain⟨d,hd,rfl⟩:=List.mem_map.1 hs
  split at he
  ·
   rename_i hc;cases he;simp only at h3 h4 hc;refine⟨_,List.mem_filterMap.2 ⟨d,hd,if_pos ⟨?_,hc⟩⟩,h3,h4⟩;unfold dG;rw[dH]at h2;simp only[Bool.and_eq_true,decide_eq_true_eq];omega
  ·
   cases he
theorem jG (p:aK):(gU p).ab.length≤16 * (p.ab.length+1):=by
 have:=rz (fr:=cO p) (B:=p.ab.length+1) (fun r _=>ed p r) 16 (Nat.le_refl _);exact this
theorem n9:∀(k:Nat) (x y:List bn),x.length+y.length≤k→(dP x y).length≤x.length+y.length
 | _,[],y,_=>by simp[dP]
 | _,_::_,[],_=>by simp[dP]
 | 0,_::_,_::_,h=>by simp at h
 | k + 1, a :: x, b :: y, h => by
   simp only[List.length_cons]at h;rw[pQ,List.length_append];have h1:=n9 k x (b::y) (by simp only[List.length_cons];omega);have h2:=n9 k (a::x) y (by simp only[List.length_cons];omega);simp only[List.length_cons]at h1 h2 ⊢
   split<;>split<;>simp<;>omega
theorem na (a b:aK)(r:Nat):(ej (aO a r) (aO b r)).length≤a.ab.length+b.ab.length+3:=by
 unfold ej;have h1:=n9 _ (aO a r) (lz 1 (aO b r)) (Nat.le_refl _);have h2:=pM (aO b r) 1;have h3:=cH (cO a r);have h4:=cH (cO b r);have h5:=ed a r;have h6:=ed b r;unfold aO at *;omega
def ov (a b:aK)(r k:Nat):List bn:=if k<r then ej (aO a k) (aO b k) else cO a k
theorem Ep (a b:aK)(r:Nat):ov a b r r=cO a r:=if_neg (Nat.lt_irrefl r)
theorem CC (a b:aK)(r:Nat):ov a b (r+1) r=ej (aO a r) (aO b r):=if_pos (Nat.lt_succ_self r)
theorem CH {a b:aK}{r k:Nat}(h:k≠r):ov a b (r+1) k=ov a b r k:=by
 unfold ov
 by_cases h1:k<r
 ·
  rw[if_pos h1,if_pos (by omega)]
 ·
  rw[if_neg h1,if_neg (by omega)]
theorem AP (a b:aK):nq (ov a b 16)=j0 a b:=by
 unfold nq j0;refine pL fun r hr=>?_;unfold ov;rw[if_pos hr,vh (kM (bx a r) (bx b r))]
theorem EX {a b:aK}(ha:a.ab.length≤10000000000)(hb:b.ab.length≤10000000000):∀r,r<16→(ov a b 16 r).length≤100000000000:=fun r hr=>by
 unfold ov;rw[if_pos hr];have:=na a b r;omega
theorem ug (W:World)(A:Option Addr)(c:Nat)(ps:List PL)(hR:AG W A c ps)(hE:∀p∈ps,p.ok W)(hn:ps.length≤1000000000000)(ht:cP (ps.map PL.d)≤1000000000000):Calls Tryz.prog 191 #[.slice A (ps).length c] W fun e w'=>∃t ls,e=.returned (.pointer (some ⟨t,0,none⟩))∧gT ls (gl (ps.map PL.d))∧Sat W w' [j5 355 t ls,br (ls.map (Loc.jm 357))]:=by
 refine bP Tryz.func191 [0] ?_;have O:=Sat.start W;refine uC 7 ?_;intro a I;refine o1 0 I (aL I rfl Fc) ?_;clear I a;refine uB rfl O ?_;clear O;intro b10 w O;refine uO 7 ?_;refine u1 4 (ak rfl fN) ?_;intro a I;refine wp_loop_ghost (fun (mm:Nat) a w=>∃(i:Nat) (ls:List (Loc bn)),Ag a 78 [(3,.pointer (some ⟨b10,0,none⟩)),(11,.slice A (ps).length c),(12,.int .i64 ((ps.length:Nat):Int)),(13,.int .i64 ((i:Nat):Int))]∧Sat W w ([j5 355 b10 ls,br (ls.map (Loc.jm 357))])∧(i≤ps.length)∧(gT ls (gl ((ps.map PL.d).take i)))∧mm=ps.length-i) ps.length ?_ ?_
 ·replace I:=I.kp [3,11,12,13] rfl;have hS1:Sat W w [j5 355 b10 (List.replicate 16 wA),br ((List.replicate 16 wA).map (Loc.jm 357))]:=(sg 357 O 16).p 1;exact⟨0,_,I,hS1,(by omega),(by exact so),by omega⟩
 intro m a w hI;clear O I;obtain⟨i,ls,I,O,hi,hT,rfl⟩:=hI;refine rC 2 I ?_;clear I a;refine aM 0 0 (aq rfl rfl) ?_ ?_
 ·intro h14;refine uO 10 ?_;obtain⟨A_p,rfl⟩:∃q,A=some q:=(hR.sat O).ao (by omega);obtain⟨p,hp⟩:∃zz_,ps[i]?=some zz_:=⟨_,List.getElem?_eq_getElem (by omega)⟩;have hpo:=hE p (List.mem_of_getElem? hp);have hsp:=wS (kQ hp);obtain⟨va,vc,ca,cc,d⟩:=p;have hpv:kb W va vc d.vec:=hpo.vec;have hpc:gK W ca cc d.ab:=hpo.ab;intro a I;dsimp only at hsp;refine o1 0 I (fY (I.ev rfl) (I.ev rfl) fN bj (by omega) (by omega)) ?_;clear I a;refine u1 0 (ax (cs:=om (⟨va,vc,ca,cc,d⟩:PL)) rfl fy bj (fun j u e=>bI (hR.sat O) (lf hp j u e))) ?_;refine uN dN O ?_;clear O;intro b5 w O;refine uW (vs:=[_,_]) (cs':=[_,_]) rfl rfl bj O ?_;clear O;intro w O;refine uO 5 ?_;refine u1 0 (aa rfl cy) ?_;refine u1 0 (ld rfl) ?_;refine u1 0 (ak rfl aB) ?_;refine u1 4 (w6 rfl rfl) ?_;intro a I
  refine wp_loop_ghost (fun (mm:Nat) a w=>∃(j:Nat) (ls:List (Loc bn)),Ag a 78 [(3,.pointer (some ⟨b10,0,none⟩)),(11,.slice (some A_p) (ps).length c),(12,.int .i64 ((ps.length:Nat):Int)),(13,.int .i64 ((i:Nat):Int)),(5,.pointer (some ⟨b5,0,none⟩)),(20,.int .i64 (min (d.vec.length:Int) 16)),(21,.int .i64 ((j:Nat):Int))]∧Sat W w ([aV b5 (.cells #[.slice va d.vec.length vc,.slice ca d.ab.length cc] 63),j5 355 b10 ls,br (ls.map (Loc.jm 357))])∧(j≤min d.vec.length 16)∧(gT ls (dt ((ps.map PL.d).take i) d j 0))∧mm=min d.vec.length 16-j) (min d.vec.length 16) ?_ ?_
  ·replace I:=I.kp [3,11,12,13,5,20,21] rfl;exact⟨0,_,I,O,(by omega),(by exact hT.congr fun r hr=>(rG _ d r).symm),by omega⟩
  intro m a w hI;clear O I;obtain⟨j,ls,I,O,hj,hT,rfl⟩:=hI;refine rC 2 I ?_;clear I a;refine aM 0 0 (aq rfl rfl) ?_ ?_
  ·intro h22;obtain⟨lA,lc,hl⟩:=hT.get (show j<16 by omega);have hlen:=ow ((ps.map PL.d).take i) d j 0 j;intro a I;replace O:Sat W w (eO 357 lA lc (dt ((ps.map PL.d).take i) d j 0 j)::_):=(O.p 2).dJ (qc hl);refine rO 14 I ?_;clear I a;intro a I;refine bg [14,17] O (by kernel_rfl) ?_;replace O:=O.drew;refine rX [0,1,2,3] I ?_;clear I a;refine bA 4 [] rfl (fun w=>(aX rfl)) ?_;refine bA 5 [] rfl (fun w=>(iA rfl rfl lN iY)) ?_;refine cW 6 [] rfl (by exact⟨[],O⟩) (fun w hT=>have O:=hT.sat;(an rfl kZ (gV (O.p 3) hl))) ?_;refine bA 7 [] rfl (fun w=>(aa rfl cy)) ?_;refine cW 8 [9] rfl (by exact⟨[],O⟩) (fun w hT=>have O:=hT.sat;(ld rfl)) ?_;obtain⟨va_p,rfl⟩:∃q,va=some q:=(hpv.sat O).ao (by omega);obtain⟨v,hv⟩:∃zz_,d.vec[j]?=some zz_:=⟨_,List.getElem?_eq_getElem (by omega)⟩
   refine bA 10 [] rfl (fun w=>(ix rfl rfl aB fS)) ?_;refine cW 11 [] rfl (by exact⟨[],O⟩) (fun w hT=>have O:=hT.sat;(an rfl dE (gb (hpv.sat O) (bu hv)))) ?_;intro a I;refine P1 12 [] I rfl (fun w=>(aL I rfl kG)) ?_;clear I a;refine bA 15 [] rfl (fun w=>(aX rfl)) ?_;intro a I;refine aG 13 (by kernel_rfl) ?_;refine vv (vss:=[[_,_]]) I rfl rfl rfl bR iC rfl rfl rfl (by simp) rfl O ?_;clear I a O;intro A37 w O;intro a I;refine⟨.inr fun _=>(by exact⟨[_],O⟩),?_⟩;refine aG 14 (by kernel_rfl) ?_;refine eA I rfl rfl rfl rfl bR iC rfl (O.p 1) (O.rd.src bR (by simp[Value.oneCell'])) (by omega) (by omega) ?_;clear I a O;intro A38 c38 w hc38 O;intro a I;refine⟨.inl rfl,?_⟩;refine P1 16 [] I rfl (fun w=>(fL (I.ev rfl) (I.ev rfl) lN iY (by omega) (by omega))) ?_;clear I a;intro a I
   refine aG 17 (by kernel_rfl) ?_;refine eT (i:=j) ⟨A38,c38,dt ((ps.map PL.d).take i) d j 0 j++[(1,v)]⟩ I rfl rfl (by simp) rfl (by simp[Loc.v]) kZ iY (O.p 4) hl ?_;clear O;intro w O;refine⟨.inl rfl,?_⟩;refine ah (by kernel_rfl) ?_ _;refine rE 3 I ?_;clear I a;refine u1 2 (ad rfl rfl) ?_;intro a I;replace I:=I.kp [3,11,12,13,5,20,21] rfl;have hS2:=sT hl (l':=⟨A38,c38,dt ((ps.map PL.d).take i) d j 0 j++[(1,v)]⟩) (gL (((O.p 4).p 4).p 3) (by simp) (by simp[gY]));refine⟨min d.vec.length 16-(j+1),by omega,j+1,_,I,nJ ((hS2.p 2).p 2),by omega,?_,rfl⟩;exact hT.set (mJ hv).2.symm fun k hk hne=>(mJ hv).1 k hne
  ·intro h22;refine uO 11 ?_;refine u1 0 (aa rfl bX) ?_;refine u1 0 (ld rfl) ?_;refine u1 4 (ak rfl dp) ?_;intro a I;refine wp_loop_ghost (fun (mm:Nat) a w=>∃(k:Nat) (ls:List (Loc bn)),Ag a 78 [(3,.pointer (some ⟨b10,0,none⟩)),(11,.slice (some A_p) (ps).length c),(12,.int .i64 ((ps.length:Nat):Int)),(13,.int .i64 ((i:Nat):Int)),(43,.slice ca (d.ab).length cc),(44,.int .i64 ((d.ab.length:Nat):Int)),(45,.int .i64 ((k:Nat):Int))]∧Sat W w ([j5 355 b10 ls,br (ls.map (Loc.jm 357))])∧(k≤d.ab.length)∧(gT ls (dt ((ps.map PL.d).take i) d (min d.vec.length 16) k))∧mm=d.ab.length-k) d.ab.length ?_ ?_
   ·replace I:=I.kp [3,11,12,13,43,44,45] rfl;exact⟨0,_,I,O.drop,(by omega),(by have hj:j=min d.vec.length 16:=(by omega);rw[←hj];exact hT),by omega⟩
   intro m a w hI;clear O I;obtain⟨k,ls,I,O,hk,hT,rfl⟩:=hI;refine rC 2 I ?_;clear I a;refine aM 0 0 (aq rfl rfl) ?_ ?_
   ·intro h46;refine uO 10 ?_;obtain⟨ca_p,rfl⟩:∃q,ca=some q:=(hpc.sat O).ao (by omega);obtain⟨s,hs⟩:∃zz_,d.ab[k]?=some zz_:=⟨_,List.getElem?_eq_getElem (by omega)⟩;refine u1 0 (ix rfl rfl dp cL) ?_;refine u1 0 (ax (cs:=gi s) rfl kg cL (fun j u e=>bI (hpc.sat O) (dB hs j u e))) ?_;refine uN mz O ?_;clear O;intro b8 w O;refine uW (vs:=[_,_,_]) (cs':=[_,_,_]) rfl rfl cL O ?_;clear O;intro w O;refine uO 4 ?_;refine u1 0 (aa rfl bT) ?_;refine u1 0 (ld rfl) ?_;refine aM 0 0 (ek rfl rfl) ?_ ?_
    ·intro h51;refine uO 1 ?_;refine u1 0 (aa rfl bT) ?_;refine u1 0 (ld rfl) ?_;refine aM 0 0 (aq rfl rfl) ?_ ?_
     ·intro h55;obtain⟨lA,lc,hl⟩:=hT.get (show s.rep.toNat<16 by omega);have hlen:=ow ((ps.map PL.d).take i) d (min d.vec.length 16) k s.rep.toNat;intro a I;replace O:Sat W w (eO 357 lA lc (dt ((ps.map PL.d).take i) d (min d.vec.length 16) k s.rep.toNat)::_):=(O.p 2).dJ (qc hl);refine rO 4 I ?_;clear I a;intro a I;refine jk [18] (lF W [br ((ls.map (Loc.jm 357)).eraseIdx s.rep.toNat),aV b8 (.cells #[.int .i64 s.rep,.int .i64 s.lo,.int .i64 s.hi] 219),j5 355 b10 ls]) (by kernel_rfl) ?_;replace O:=O.drew;refine rX [0] I ?_;clear I a
      refine bA 1 [] rfl (fun w=>(aa rfl bT)) ?_;refine cW 2 [3] rfl (by exact⟨[_],O⟩) (fun w hT=>have O:=hT.sat;(ld rfl)) ?_;refine bA 4 [] rfl (fun w=>(aa rfl bT)) ?_;refine cW 5 [] rfl (by exact⟨[_],O⟩) (fun w hT=>have O:=hT.sat;(ld rfl)) ?_;refine bA 6 [] rfl (fun w=>(aX rfl)) ?_;refine bA 7 [] rfl (fun w=>(iA rfl rfl lN iY)) ?_;refine cW 8 [] rfl (by exact⟨[_],O⟩) (fun w hT=>have O:=hT.sat;(an rfl kZ (gV (O.p 2) hl))) ?_;refine bA 9 [] rfl (fun w=>(aa rfl dU)) ?_;refine cW 10 [] rfl (by exact⟨[_],O⟩) (fun w hT=>have O:=hT.sat;(ld rfl)) ?_;refine bA 11 [] rfl (fun w=>(aa rfl dV)) ?_;refine cW 12 [] rfl (by exact⟨[_],O⟩) (fun w hT=>have O:=hT.sat;(ld rfl)) ?_;intro a I;refine P1 13 [] I rfl (fun w=>(aL I rfl kG)) ?_;clear I a;refine bA 16 [] rfl (fun w=>(aX rfl)) ?_
      intro a I;refine aG 14 (by kernel_rfl) ?_;refine vv (vss:=[[_,_]]) I rfl rfl rfl bR iC rfl rfl rfl (by simp) rfl O ?_;clear I a O;intro A71 w O;intro a I;refine⟨.inr fun _=>(by exact⟨[_,_],O⟩),?_⟩;refine aG 15 (by kernel_rfl) ?_;refine eA I rfl rfl rfl rfl bR iC rfl (O.p 1) (O.rd.src bR (by simp[Value.oneCell'])) (by omega) (by omega) ?_;clear I a O;intro A72 c72 w hc72 O;intro a I;refine⟨.inr fun _=>(by exact⟨[_,_],O⟩),?_⟩;refine P1 17 [] I rfl (fun w=>(fL (I.ev rfl) (I.ev rfl) lN iY (by omega) (by omega))) ?_;clear I a;intro a I;refine aG 18 (by kernel_rfl) ?_;refine eT (i:=s.rep.toNat) ⟨A72,c72,dt ((ps.map PL.d).take i) d (min d.vec.length 16) k s.rep.toNat++[(s.lo,s.hi)]⟩ I rfl rfl (by simp) rfl (by simp[Loc.v]) kZ iY (O.p 4) hl ?_;clear O;intro w O;refine⟨.inl rfl,?_⟩
      refine ah (by kernel_rfl) ?_ _;refine rE 3 I ?_;clear I a;refine u1 2 (ad rfl rfl) ?_;intro a I;replace I:=I.kp [3,11,12,13,43,44,45] rfl;have hS2:=sT hl (l':=⟨A72,c72,dt ((ps.map PL.d).take i) d (min d.vec.length 16) k s.rep.toNat++[(s.lo,s.hi)]⟩) (gL ((O.p 3).p 2) (by simp) (by simp[gY]));refine⟨d.ab.length-(k+1),by omega,k+1,_,I,oW (hS2.p 1),by omega,?_,rfl⟩;refine hT.set ?_ fun q hq hne=>?_
      ·rw[fb hs,if_pos (by omega)]
      ·rw[fb hs,if_neg (by omega),List.append_nil]
     ·intro h55;refine uO 8 ?_;refine u1 2 (ad rfl rfl) ?_;intro a I;replace I:=I.kp [3,11,12,13,43,44,45] rfl;refine⟨d.ab.length-(k+1),by omega,k+1,ls,I,O.drop,by omega,?_,rfl⟩;exact hT.congr fun q hq=>by rw[fb hs,if_neg (by omega),List.append_nil]
    ·intro h51;refine uO 12 ?_;refine u1 2 (ad rfl rfl) ?_;intro a I;replace I:=I.kp [3,11,12,13,43,44,45] rfl;refine⟨d.ab.length-(k+1),by omega,k+1,ls,I,O.drop,by omega,?_,rfl⟩;exact hT.congr fun q hq=>by rw[fb hs,if_neg (by omega),List.append_nil]
   ·intro h46;refine uO 11 ?_;refine u1 2 (ad rfl rfl) ?_;intro a I;replace I:=I.kp [3,11,12,13] rfl;refine⟨ps.length-(i+1),by omega,i+1,ls,I,O,by omega,?_,rfl⟩;rw[aA (kQ hp)];exact hT.congr fun r hr=>nW hr (by omega)
 ·intro h14;refine uO 16 ?_;refine aU ?_;have hi2:i=ps.length:=by omega
  subst hi2;rw[List.take_of_length_le (by simp)]at hT;exact⟨_,_,rfl,hT,O⟩
theorem yf (W:World)(A:Option Addr)(n c:Nat)(xs:List Int)(hR:Rd W 1 (.slice A n c) n (xs.map (Value.int .i64)))(hn:n=xs.length)(hl:xs.length≤1000000000000):Calls Tryz.prog 244 #[.slice A n c] W fun e w'=>∃A' c',e=.returned (.slice A' xs.length c')∧Sat W w' [cN 3 A' c' xs]:=by
 refine bP Tryz.func244 [0] ?_;have O:=Sat.start W;refine uC 9 ?_;refine nk 0 0 (z1 rfl rfl aB) ?_ ?_
 ·intro h4;refine uO 10 ?_;refine aU ?_;obtain rfl:A=none:=by simpa using h4
  obtain⟨h0,_⟩:=hR.nil;obtain rfl:=List.eq_nil_of_length_eq_zero (by omega:xs.length=0);exact⟨none,0,rfl,O.aW _ _⟩
 ·intro h4;refine uO 7 ?_;intro a I;refine y5 I rfl aB jW O ?_;clear I a O;intro A5 w O;refine uO 1 ?_;intro a I;refine cZ I rfl rfl rfl aB jW rfl O ((hR.sat O).src aB (yD xs)) (by omega) (by omega) ?_;clear I a O;intro A7 c7 w hc7 O;refine uO 4 ?_;refine aU ?_;simp only[Nat.zero_add,List.nil_append]at O ⊢;exact⟨_,_,pZ hn,gL O hn rfl⟩
theorem lR (W:World)(W0:World)(L0:List As)(t:Nat)(ls:List (Loc bn))(fr:Nat→List bn)(s0:Sat W0 W (j5 355 t ls::br (ls.map (Loc.jm 357))::L0))(hT:gT ls fr)(hb:∀r,r<16→(fr r).length≤100000000000):Calls Tryz.prog 192 #[.pointer (some ⟨t,0,none⟩)] W fun e w'=>∃q:PL,e=.returned (.agg #[.slice q.va q.d.vec.length q.vc,.slice q.ca q.d.ab.length q.cc])∧q.d=nq fr∧Sat W w' [cN 3 q.va q.vc q.d.vec,bH 219 q.ca q.cc q.d.ab]:=by
 refine bP Tryz.func192 [0] ?_;have O:=Sat.start W;refine uC 2 ?_;refine uN dN O ?_;clear O;intro b2 w O;refine uO 4 ?_;refine uN dN O ?_;clear O;intro b3 w O;refine uO 4 ?_;intro a I;refine J8 I rfl rfl rfl aB jW rfl (by decide) (by decide) O ?_;clear I a O;intro b11 w O;refine uO 15 ?_;intro a I
 refine wp_loop_ghost (fun (mm:Nat) a w=>∃(r:Nat) (Ac:Option Addr) (cc:Nat),Ag a 59 [(0,.pointer (some ⟨t,0,none⟩)),(2,.pointer (some ⟨b2,0,none⟩)),(3,.pointer (some ⟨b3,0,none⟩)),(4,.slice (some ⟨b11,0,none⟩) 16 16),(5,.int .i64 (((cF (bh (fun r=>au (fr r))) r):Nat):Int)),(12,.int .i64 ((r:Nat):Int))]∧Sat W w ([aV b3 (.cells #[.slice none 0 0,.slice Ac (((List.range r).flatMap (aP (fun r=>au (fr r))))).length cc] 63),bH 219 Ac cc ((List.range r).flatMap (aP (fun r=>au (fr r)))),aV b11 (.cells (((List.range (r)).map (bh (fun r=>au (fr r)))++List.replicate (16-(r)) 0).map (Value.int .i64)).toArray 3 (0,0)),aV b2 (.cells #[.slice none 0 0,.slice none 0 0] 63)])∧(r≤16)∧mm=16-r) 16 ?_ ?_
 ·replace I:=I.kp [0,2,3,4,5,12] rfl;exact⟨0,none,0,I,(((((O.aW 219 3).p 3).p 2).p 2).p 3),(by omega),by omega⟩
 intro m a w hI;clear O I;obtain⟨r,Ac,cc,I,O,hr,rfl⟩:=hI;refine rC 2 I ?_;clear I a;refine aM 0 0 (aq rfl rfl) ?_ ?_
 ·intro h13;obtain⟨lA,lc,hl⟩:=hT.get (show r<16 by omega);have hrd:ke W lA lc (fr r):=rl s0.qu hl;have hbr:=hb r (by omega);have hlead:=nK (en (fr r));have hrl:(aR (au (fr r))).2.length≤100000000000:=Nat.le_trans (lP _) (Nat.le_trans (cH _) hbr);have hcl:=rz hb r (by omega);intro a I;rw[dH]at hlead;refine rO 18 I ?_;clear I a;refine u1 0 (aX rfl) ?_;refine u1 0 (iA rfl rfl lN iY) ?_;refine u1 0 (an rfl kZ (CE s0 O hl)) ?_;refine uF rfl (AK _ lA lc (fr r) (hrd.sat O) (by omega)) ?_;rintro e w ⟨A21,c21,rfl,hT2⟩;replace O:=O.ar hT2;clear hT2;refine uO 1 ?_;refine u1 0 (aj rfl rfl) ?_;refine u1 9 (aj rfl rfl) ?_;refine u1 0 (ix rfl rfl aB fS) ?_;intro a I;refine HW (j:=r) I rfl (by rw[add_lit];simp) rfl dE fS rfl (O.p 3) (FW (by omega)) ?_
  clear O;intro w O;rw[Ht (f:=(bh (fun r=>au (fr r)))) (show r<16 by omega) (aR (au (fr r))).1 rfl]at O;refine rO 6 I ?_;clear I a;refine aM 0 0 (db rfl rfl) ?_ ?_
  ·intro h29;refine uO 5 ?_;refine u1 6 (ad rfl rfl) ?_;refine u1 4 (ak rfl bR) ?_;intro a I
   refine wp_loop_ghost (fun (mm:Nat) a w=>∃(q sz:Nat) (Ac:Option Addr) (cc:Nat),Ag a 59 [(0,.pointer (some ⟨t,0,none⟩)),(2,.pointer (some ⟨b2,0,none⟩)),(3,.pointer (some ⟨b3,0,none⟩)),(4,.slice (some ⟨b11,0,none⟩) 16 16),(5,.int .i64 ((sz:Nat):Int)),(6,.int .i64 ((r:Nat):Int)),(12,.int .i64 ((r:Nat):Int)),(32,.slice A21 ((aR (au (fr r))).2).length c21),(33,.int .i64 (((aR (au (fr r))).2.length:Nat):Int)),(34,.int .i64 ((q:Nat):Int))]∧Sat W w ([aV b3 (.cells #[.slice none 0 0,.slice Ac ((((List.range r).flatMap (aP (fun r=>au (fr r))))++((aR (au (fr r))).2.take q).map (jX r))).length cc] 63),bH 219 Ac cc (((List.range r).flatMap (aP (fun r=>au (fr r))))++((aR (au (fr r))).2.take q).map (jX r)),eO 357 A21 c21 (aR (au (fr r))).2,aV b11 (.cells (((List.range (r+1)).map (bh (fun r=>au (fr r)))++List.replicate (16-(r+1)) 0).map (Value.int .i64)).toArray 3 (0,0)),aV b2 (.cells #[.slice none 0 0,.slice none 0 0] 63)])∧(q≤(aR (au (fr r))).2.length)∧(sz=cF (bh (fun r=>au (fr r))) (r+1))∧mm=(aR (au (fr r))).2.length-q) (aR (au (fr r))).2.length ?_ ?_
   ·replace I:=I.kp [0,2,3,4,5,6,12,32,33,34] rfl
    have hS1:Sat W w [aV b3 (.cells #[.slice none 0 0,.slice Ac ((((List.range r).flatMap (aP (fun r=>au (fr r))))++((aR (au (fr r))).2.take 0).map (jX r))).length cc] 63),bH 219 Ac cc (((List.range r).flatMap (aP (fun r=>au (fr r))))++((aR (au (fr r))).2.take 0).map (jX r)),eO 357 A21 c21 (aR (au (fr r))).2,aV b11 (.cells (((List.range (r+1)).map (bh (fun r=>au (fr r)))++List.replicate (16-(r+1)) 0).map (Value.int .i64)).toArray 3 (0,0)),aV b2 (.cells #[.slice none 0 0,.slice none 0 0] 63)]:=by
     simp only[List.take_zero,List.map_nil,List.append_nil];exact (((((O.p 4).p 1).p 2).p 4).p 4)
    exact⟨0,r+1,Ac,cc,I,hS1,(by omega),(by rw[cF,if_pos (show 0<(bh (fun r=>au (fr r))) r from h29)]),by omega⟩
   intro m a w hI;clear O I;obtain⟨q,sz,Ac,cc,I,O,hq,hsz,rfl⟩:=hI;refine rC 2 I ?_;clear I a;refine aM 0 0 (aq rfl rfl) ?_ ?_
   ·intro h35;refine uO 10 ?_;obtain⟨A21_p,rfl⟩:∃q,A21=some q:=(O.p 2).rd.ao (by omega);obtain⟨x,hx⟩:∃zz_,(aR (au (fr r))).2[q]?=some zz_:=⟨_,List.getElem?_eq_getElem (by omega)⟩;intro a I
    have hcl2:(((List.range r).flatMap (aP (fun r=>au (fr r))))++((aR (au (fr r))).2.take q).map (jX r)).length≤r * 100000000000+q:=by
     rw[List.length_append,List.length_map,List.length_take];omega
    refine o1 0 I (fY (I.ev rfl) (I.ev rfl) bR dx (by omega) (by omega)) ?_;clear I a;refine u1 0 (ax (cs:=gY x) rfl sw dx (fun j u e=>bI (O.p 2).rd (eB hx j u e))) ?_;refine uN pr O ?_;clear O;intro b10 w O;refine uW (vs:=[_,_]) (cs':=[_,_]) rfl rfl dx O ?_;clear O;intro w O;refine uO 3 ?_;refine u1 0 (aa rfl bX) ?_;refine u1 1 (ld rfl) ?_;refine u1 0 (aa rfl gA) ?_;refine u1 0 (ld rfl) ?_;refine u1 0 (aa rfl dR) ?_;refine u1 0 (ld rfl) ?_;intro a I;refine o1 0 I (aL I rfl jM) ?_;clear I a;intro a I;refine jl (vss:=[[_,_,_]]) I rfl rfl dp pa rfl rfl rfl (by simp) rfl O ?_;clear I a O;intro A46 w O;intro a I;refine cZ I rfl rfl rfl dp pa rfl (O.p 3) (O.rd.src dp (by simp[Value.oneCell'])) (by omega) (by omega) ?_
    clear I a O;intro A47 c47 w hc47 O;refine u1 0 (aa rfl bX) ?_;intro a I;refine mM (cs':=[_,_]) I rfl rfl xJ EU rfl (O.p 3) rfl rfl ?_;clear O;intro w O;refine rO 4 I ?_;clear I a;refine u1 2 (ad rfl rfl) ?_;intro a I;replace I:=I.kp [0,2,3,4,5,6,12,32,33,34] rfl;have ec:(((List.range r).flatMap (aP (fun r=>au (fr r))))++((aR (au (fr r))).2.take q).map (jX r))++[jX r x]=(((List.range r).flatMap (aP (fun r=>au (fr r))))++((aR (au (fr r))).2.take (q+1)).map (jX r)):=by rw[aA hx,List.map_append,List.append_assoc];rfl
    have hS2:Sat W w (row 219 3 (.slice A47 ((((List.range r).flatMap (aP (fun r=>au (fr r))))++((aR (au (fr r))).2.take q).map (jX r)).length+1) c47) ((((List.range r).flatMap (aP (fun r=>au (fr r))))++((aR (au (fr r))).2.take q).map (jX r)).length+1) _::_):=O.p 1;refine⟨(aR (au (fr r))).2.length-(q+1),by omega,q+1,sz,A47,c47,I,?_,by omega,hsz,rfl⟩;have el:(((List.range r).flatMap (aP (fun r=>au (fr r))))++((aR (au (fr r))).2.take q).map (jX r)).length+1=(((List.range r).flatMap (aP (fun r=>au (fr r))))++((aR (au (fr r))).2.take (q+1)).map (jX r)).length:=by rw[←ec];simp;omega
    rw[←ec];rw[←ec]at el;have hS3:=gL hS2 (m:=((((List.range r).flatMap (aP (fun r=>au (fr r))))++((aR (au (fr r))).2.take q).map (jX r))++[jX r x]).length) (cs':=((((List.range r).flatMap (aP (fun r=>au (fr r))))++((aR (au (fr r))).2.take q).map (jX r))++[jX r x]).flatMap gi) el (by simp[gi,jX]);rw[el]at hS3;exact (((((hS3.p 6).p 6).p 6).p 3).p 4).de [_,_,_,_,_]
   ·intro h35;refine uO 11 ?_;refine u1 2 (ad rfl rfl) ?_;intro a I;replace I:=I.kp [0,2,3,4,5,12] rfl;have hq:q=(aR (au (fr r))).2.length:=by omega
    have ec:((List.range r).flatMap (aP (fun r=>au (fr r))))++((aR (au (fr r))).2.take q).map (jX r)=(List.range (r+1)).flatMap (aP (fun r=>au (fr r))):=by rw[mx,ql,List.take_of_length_le (by omega)]
    rw[ec]at O;rw[hsz]at I;exact⟨16-(r+1),by omega,r+1,Ac,cc,I,((((O.p 4).p 4).p 3).p 3).de [_,_,_,_],by omega,rfl⟩
  ·intro h29;refine uO 8 ?_;refine u1 4 (ak rfl bR) ?_;intro a I
   refine wp_loop_ghost (fun (mm:Nat) a w=>∃(q sz:Nat) (Ac:Option Addr) (cc:Nat),Ag a 59 [(0,.pointer (some ⟨t,0,none⟩)),(2,.pointer (some ⟨b2,0,none⟩)),(3,.pointer (some ⟨b3,0,none⟩)),(4,.slice (some ⟨b11,0,none⟩) 16 16),(5,.int .i64 ((sz:Nat):Int)),(6,.int .i64 ((r:Nat):Int)),(12,.int .i64 ((r:Nat):Int)),(32,.slice A21 ((aR (au (fr r))).2).length c21),(33,.int .i64 (((aR (au (fr r))).2.length:Nat):Int)),(34,.int .i64 ((q:Nat):Int))]∧Sat W w ([aV b3 (.cells #[.slice none 0 0,.slice Ac ((((List.range r).flatMap (aP (fun r=>au (fr r))))++((aR (au (fr r))).2.take q).map (jX r))).length cc] 63),bH 219 Ac cc (((List.range r).flatMap (aP (fun r=>au (fr r))))++((aR (au (fr r))).2.take q).map (jX r)),eO 357 A21 c21 (aR (au (fr r))).2,aV b11 (.cells (((List.range (r+1)).map (bh (fun r=>au (fr r)))++List.replicate (16-(r+1)) 0).map (Value.int .i64)).toArray 3 (0,0)),aV b2 (.cells #[.slice none 0 0,.slice none 0 0] 63)])∧(q≤(aR (au (fr r))).2.length)∧(sz=cF (bh (fun r=>au (fr r))) (r+1))∧mm=(aR (au (fr r))).2.length-q) (aR (au (fr r))).2.length ?_ ?_
   ·replace I:=I.kp [0,2,3,4,5,6,12,32,33,34] rfl
    have hS1:Sat W w [aV b3 (.cells #[.slice none 0 0,.slice Ac ((((List.range r).flatMap (aP (fun r=>au (fr r))))++((aR (au (fr r))).2.take 0).map (jX r))).length cc] 63),bH 219 Ac cc (((List.range r).flatMap (aP (fun r=>au (fr r))))++((aR (au (fr r))).2.take 0).map (jX r)),eO 357 A21 c21 (aR (au (fr r))).2,aV b11 (.cells (((List.range (r+1)).map (bh (fun r=>au (fr r)))++List.replicate (16-(r+1)) 0).map (Value.int .i64)).toArray 3 (0,0)),aV b2 (.cells #[.slice none 0 0,.slice none 0 0] 63)]:=by
     simp only[List.take_zero,List.map_nil,List.append_nil];exact (((((O.p 4).p 1).p 2).p 4).p 4)
    exact⟨0,(cF (bh (fun r=>au (fr r))) r),Ac,cc,I,hS1,(by omega),(by rw[cF,if_neg (show ¬0<(bh (fun r=>au (fr r))) r from h29)]),by omega⟩
   intro m a w hI;clear O I;obtain⟨q,sz,Ac,cc,I,O,hq,hsz,rfl⟩:=hI;refine rC 2 I ?_;clear I a;refine aM 0 0 (aq rfl rfl) ?_ ?_
   ·intro h35;refine uO 10 ?_;obtain⟨A21_p,rfl⟩:∃q,A21=some q:=(O.p 2).rd.ao (by omega);obtain⟨x,hx⟩:∃zz_,(aR (au (fr r))).2[q]?=some zz_:=⟨_,List.getElem?_eq_getElem (by omega)⟩;intro a I
    have hcl2:(((List.range r).flatMap (aP (fun r=>au (fr r))))++((aR (au (fr r))).2.take q).map (jX r)).length≤r * 100000000000+q:=by
     rw[List.length_append,List.length_map,List.length_take];omega
    refine o1 0 I (fY (I.ev rfl) (I.ev rfl) bR dx (by omega) (by omega)) ?_;clear I a;refine u1 0 (ax (cs:=gY x) rfl sw dx (fun j u e=>bI (O.p 2).rd (eB hx j u e))) ?_;refine uN pr O ?_;clear O;intro b10 w O;refine uW (vs:=[_,_]) (cs':=[_,_]) rfl rfl dx O ?_;clear O;intro w O;refine uO 3 ?_;refine u1 0 (aa rfl bX) ?_;refine u1 1 (ld rfl) ?_;refine u1 0 (aa rfl gA) ?_;refine u1 0 (ld rfl) ?_;refine u1 0 (aa rfl dR) ?_;refine u1 0 (ld rfl) ?_;intro a I;refine o1 0 I (aL I rfl jM) ?_;clear I a;intro a I;refine jl (vss:=[[_,_,_]]) I rfl rfl dp pa rfl rfl rfl (by simp) rfl O ?_;clear I a O;intro A46 w O;intro a I;refine cZ I rfl rfl rfl dp pa rfl (O.p 3) (O.rd.src dp (by simp[Value.oneCell'])) (by omega) (by omega) ?_
    clear I a O;intro A47 c47 w hc47 O;refine u1 0 (aa rfl bX) ?_;intro a I;refine mM (cs':=[_,_]) I rfl rfl xJ EU rfl (O.p 3) rfl rfl ?_;clear O;intro w O;refine rO 4 I ?_;clear I a;refine u1 2 (ad rfl rfl) ?_;intro a I;replace I:=I.kp [0,2,3,4,5,6,12,32,33,34] rfl;have ec:(((List.range r).flatMap (aP (fun r=>au (fr r))))++((aR (au (fr r))).2.take q).map (jX r))++[jX r x]=(((List.range r).flatMap (aP (fun r=>au (fr r))))++((aR (au (fr r))).2.take (q+1)).map (jX r)):=by rw[aA hx,List.map_append,List.append_assoc];rfl
    have hS2:Sat W w (row 219 3 (.slice A47 ((((List.range r).flatMap (aP (fun r=>au (fr r))))++((aR (au (fr r))).2.take q).map (jX r)).length+1) c47) ((((List.range r).flatMap (aP (fun r=>au (fr r))))++((aR (au (fr r))).2.take q).map (jX r)).length+1) _::_):=O.p 1;refine⟨(aR (au (fr r))).2.length-(q+1),by omega,q+1,sz,A47,c47,I,?_,by omega,hsz,rfl⟩;have el:(((List.range r).flatMap (aP (fun r=>au (fr r))))++((aR (au (fr r))).2.take q).map (jX r)).length+1=(((List.range r).flatMap (aP (fun r=>au (fr r))))++((aR (au (fr r))).2.take (q+1)).map (jX r)).length:=by rw[←ec];simp;omega
    rw[←ec];rw[←ec]at el;have hS3:=gL hS2 (m:=((((List.range r).flatMap (aP (fun r=>au (fr r))))++((aR (au (fr r))).2.take q).map (jX r))++[jX r x]).length) (cs':=((((List.range r).flatMap (aP (fun r=>au (fr r))))++((aR (au (fr r))).2.take q).map (jX r))++[jX r x]).flatMap gi) el (by simp[gi,jX]);rw[el]at hS3;exact (((((hS3.p 6).p 6).p 6).p 3).p 4).de [_,_,_,_,_]
   ·intro h35;refine uO 11 ?_;refine u1 2 (ad rfl rfl) ?_;intro a I;replace I:=I.kp [0,2,3,4,5,12] rfl;have hq:q=(aR (au (fr r))).2.length:=by omega
    have ec:((List.range r).flatMap (aP (fun r=>au (fr r))))++((aR (au (fr r))).2.take q).map (jX r)=(List.range (r+1)).flatMap (aP (fun r=>au (fr r))):=by rw[mx,ql,List.take_of_length_le (by omega)]
    rw[ec]at O;rw[hsz]at I;exact⟨16-(r+1),by omega,r+1,Ac,cc,I,((((O.p 4).p 4).p 3).p 3).de [_,_,_,_],by omega,rfl⟩
 ·intro h13;obtain rfl:r=16:=by omega
  have hsz16:=my (bh (fun r=>au (fr r))) 16;refine uO 13 ?_;refine aM 0 0 (db rfl rfl) ?_ ?_
  ·intro h52;refine uO 2 ?_;intro a I;replace I:=I.kp [2,3,4,5,52] rfl;refine rC 4 I ?_;clear I a;refine u1 0 (iF rfl rfl aB fS (by omega) (by omega)) ?_;refine uF rfl (yf _ _ _ _ ((List.range (cF (bh (fun r=>au (fr r))) 16)).map (bh (fun r=>au (fr r)))) (zQ hsz16 ▸ wa ((O.p 2).F6 (m:=16) (BS (Nat.le_refl _)) (by decide)).rd hsz16) (by simp) (by simp;omega)) ?_;rintro e w ⟨A3,c3,rfl,hT2⟩;replace O:=O.ar hT2;clear hT2;refine u1 0 (aa rfl cy) ?_;intro a I;refine mM (cs':=[_,_]) I rfl rfl iy fU rfl (O.p 1) rfl rfl ?_;clear O;intro w O;refine rO 4 I ?_;clear I a;refine u1 0 (lS (cs:=[_,_]) rfl) ?_;refine uW (vs:=[_,_]) (cs':=[_,_]) rfl rfl bj (O.p 4) ?_;clear O;intro w O;refine uO 3 ?_;intro a I
   refine gP I rfl (dj (cs:=[_,_]) I rfl fy bj (by exact O.aE (xs:=[_,_]) rfl)) ?_;exact⟨⟨A3,c3,Ac,cc,nq fr⟩,rfl,rfl,oW ((O.p 3).p 3)⟩
  ·intro h52;refine uO 2 ?_;intro a I;replace I:=I.kp [2,3,4,5,52] rfl;refine rC 5 I ?_;clear I a;refine u1 0 (lS (cs:=[_,_]) rfl) ?_;refine uW (vs:=[_,_]) (cs':=[_,_]) rfl rfl bj (O.p 3) ?_;clear O;intro w O;refine uO 3 ?_;intro a I;refine gP I rfl (dj (cs:=[_,_]) I rfl fy bj (by exact O.aE (xs:=[_,_]) rfl)) ?_;have e0:cF (bh (fun r=>au (fr r))) 16=0:=by omega
   have ef:nq fr=⟨[],(List.range 16).flatMap (aP (fun r=>au (fr r)))⟩:=by unfold nq fZ;rw[e0];rfl
   refine⟨⟨none,0,Ac,cc,nq fr⟩,by rw[ef];rfl,rfl,?_⟩;rw[ef];exact oW (Sat.aW (O.p 2) 3 1)
def sK (s:aN)(r n:Int):Bool:=decide (s.rep=r) && decide (s.lo≤n) && decide (n≤s.hi)
theorem iI (c:List aN)(r n:Int):kq c r n=c.any fun s=>sK s r n:=rfl
theorem sq (W:World)(r n:Int)  : Calls Tryz.prog 193 #[.agg #[.int .i64 r,.int .i64 n]] W fun e w'=>e=.returned (.bool (dG r n))∧Sat W w' []:=by
 refine bP Tryz.func193 [0] ?_;have O:=Sat.start W;refine uC 2 ?_;refine uB rfl O ?_;clear O;intro b1 w O;refine uO 5 ?_;refine u1 0 (aa rfl bw) ?_;refine u1 0 (ld rfl) ?_;refine aM 0 0 (ek rfl rfl) ?_ ?_
 ·intro h5;refine uO 1 ?_;refine u1 0 (aa rfl bw) ?_;refine u1 0 (ld rfl) ?_;refine aM 0 0 (aq rfl rfl) ?_ ?_
  ·intro h9;refine uO 2 ?_;refine u1 0 (aa rfl bN) ?_;refine u1 0 (ld rfl) ?_;refine aM 0 0 (ek rfl rfl) ?_ ?_
   ·intro h14;refine uO 2 ?_;refine u1 0 (aa rfl bN) ?_;refine u1 0 (ld rfl) ?_;refine u1 5 (dT rfl rfl) ?_;refine aU ?_;refine⟨?_,O.nil⟩;unfold dG
    congr 2
    rw[Bool.eq_iff_iff];simp only[Bool.and_eq_true,decide_eq_true_eq,Bool.false_eq_true,false_iff];omega
   ·intro h14;refine uO 10 ?_;refine aU ?_;refine⟨?_,O.nil⟩;unfold dG
    congr 2
    rw[Bool.eq_iff_iff];simp only[Bool.and_eq_true,decide_eq_true_eq,Bool.false_eq_true,false_iff];omega
  ·intro h9;refine uO 15 ?_;refine aU ?_;refine⟨?_,O.nil⟩;unfold dG
   congr 2
   rw[Bool.eq_iff_iff];simp only[Bool.and_eq_true,decide_eq_true_eq,Bool.false_eq_true,false_iff];omega
 ·intro h5;refine uO 19 ?_;refine aU ?_;refine⟨?_,O.nil⟩;unfold dG
  congr 2
  rw[Bool.eq_iff_iff];simp only[Bool.and_eq_true,decide_eq_true_eq,Bool.false_eq_true,false_iff];omega
theorem CU (W:World)(A:Option Addr)(c:Nat)(xs:List Int)(B:Option Addr)(d:Nat)(ys:List Int)(hX:kb W A c xs)(hY:kb W B d ys)(hlx:xs.length≤1000000000000000)(hly:ys.length≤1000000000000000):Calls Tryz.prog 158 #[.slice A (xs).length c,.slice B (ys).length d] W fun e w'=>e=.returned (.bool (decide (xs=ys)))∧Sat W w' []:=by
 refine bP Tryz.func158 [0,1] ?_;have O:=Sat.start W;refine uC 9 ?_;refine u1 1 (ak rfl aB) ?_;refine u1 0 (ak rfl aB) ?_;refine aM 0 0 (aD rfl rfl) ?_ ?_
 ·intro h10;refine uO 10 ?_;refine aU ?_;refine⟨?_,O⟩;rw[decide_eq_false];intro h;rw[h]at h10;omega
 ·intro h10;refine uO 9 ?_;refine u1 4 (ak rfl aB) ?_;intro a I;refine wp_loop_ghost (fun (mm:Nat) a w=>∃(i:Nat),Ag a 26 [(0,.slice A (xs).length c),(1,.slice B (ys).length d),(12,.int .i64 ((xs.length:Nat):Int)),(13,.int .i64 ((i:Nat):Int))]∧Sat W w ([])∧(i≤xs.length)∧(xs.take i=ys.take i)∧mm=xs.length-i) xs.length ?_ ?_
  ·replace I:=I.kp [0,1,12,13] rfl;exact⟨0,I,O,(by omega),(by rfl),by omega⟩
  intro m a w hI;clear O I;obtain⟨i,I,O,hi,he,rfl⟩:=hI;refine rC 2 I ?_;clear I a;refine aM 0 0 (aq rfl rfl) ?_ ?_
  ·intro h14;refine uO 15 ?_;intro a I;refine cK (fun w'=>Sat _ w' _) (by kernel_rfl) (by kernel_rfl) O.drew ?_;refine rQ 2 I ?_;clear I a;obtain⟨A_p,rfl⟩:∃q,A=some q:=(hX.sat O).ao (by omega);obtain⟨x,hx⟩:∃zz_,xs[i]?=some zz_:=⟨_,List.getElem?_eq_getElem (by omega)⟩;refine bp 0 (fun w O=>(ix rfl rfl aB fS)) ?_;refine bp 2 (fun w O=>(an rfl dE (gb (hX.sat O) (bu hx)))) ?_;obtain⟨B_p,rfl⟩:∃q,B=some q:=(hY.sat O).ao (by omega);obtain⟨y,hy⟩:∃zz_,ys[i]?=some zz_:=⟨_,List.getElem?_eq_getElem (by omega)⟩;refine bp 0 (fun w O=>(ix rfl rfl aB fS)) ?_;refine bp 0 (fun w O=>(an rfl dE (gb (hY.sat O) (bu hy)))) ?_;intro a I;refine K.sr I rfl rfl rfl (fun w O=>(aD (I.ev rfl) (I.ev rfl))) ?_ ?_
   ·clear I a;intro h24;intro a I;refine wpQuiet_nil ?_;clear O;intro w O;refine rE 13 I ?_;clear I a;refine aU ?_;refine⟨?_,O⟩;rw[decide_eq_false];intro h;rw[h,hy]at hx;cases hx;omega
   ·clear I a;intro h24;intro a I;refine wpQuiet_nil ?_;clear O;intro w O;refine rE 6 I ?_;clear I a;refine u1 2 (ad rfl rfl) ?_;intro a I;replace I:=I.kp [0,1,12,13] rfl;refine⟨xs.length-(i+1),by omega,i+1,I,O,by omega,?_,rfl⟩;rw[aA hx,aA hy,he,show x=y from by omega]
  ·intro h14;refine uO 15 ?_;refine aU ?_;refine⟨?_,O⟩;rw[decide_eq_true];rwa[List.take_of_length_le (by omega),List.take_of_length_le (by omega)]at he
theorem Dw (W:World)(A:Option Addr)(c:Nat)(xs:List aN)(B:Option Addr)(d:Nat)(ys:List aN)(hX:gK W A c xs)(hY:gK W B d ys)(hlx:xs.length≤1000000000000000)(hly:ys.length≤1000000000000000):Calls Tryz.prog 159 #[.slice A (xs).length c,.slice B (ys).length d] W fun e w'=>e=.returned (.bool (decide (xs=ys)))∧Sat W w' []:=by
 refine bP Tryz.func159 [0,1] ?_;have O:=Sat.start W;refine uC 9 ?_;refine u1 1 (ak rfl dp) ?_;refine u1 0 (ak rfl dp) ?_;refine aM 0 0 (aD rfl rfl) ?_ ?_
 ·intro h10;refine uO 10 ?_;refine aU ?_;refine⟨?_,O⟩;rw[decide_eq_false];intro h;rw[h]at h10;omega
 ·intro h10;refine uO 9 ?_;refine u1 4 (ak rfl dp) ?_;intro a I;refine wp_loop_ghost (fun (mm:Nat) a w=>∃(i:Nat),Ag a 26 [(0,.slice A (xs).length c),(1,.slice B (ys).length d),(12,.int .i64 ((xs.length:Nat):Int)),(13,.int .i64 ((i:Nat):Int))]∧Sat W w ([])∧(i≤xs.length)∧(xs.take i=ys.take i)∧mm=xs.length-i) xs.length ?_ ?_
  ·replace I:=I.kp [0,1,12,13] rfl;exact⟨0,I,O,(by omega),(by rfl),by omega⟩
  intro m a w hI;clear O I;obtain⟨i,I,O,hi,he,rfl⟩:=hI;refine rC 2 I ?_;clear I a;refine aM 0 0 (aq rfl rfl) ?_ ?_
  ·intro h14;refine uO 15 ?_;intro a I;refine cK (fun w'=>Sat _ w' _) (by kernel_rfl) (by kernel_rfl) O.drew ?_;refine rQ 2 I ?_;clear I a;obtain⟨A_p,rfl⟩:∃q,A=some q:=(hX.sat O).ao (by omega);obtain⟨x,hx⟩:∃zz_,xs[i]?=some zz_:=⟨_,List.getElem?_eq_getElem (by omega)⟩;refine bp 0 (fun w O=>(ix rfl rfl dp cL)) ?_;refine bp 2 (fun w O=>(ax (cs:=gi x) rfl kg cL (fun j u e=>bI (hX.sat O) (dB hx j u e)))) ?_;obtain⟨B_p,rfl⟩:∃q,B=some q:=(hY.sat O).ao (by omega);obtain⟨y,hy⟩:∃zz_,ys[i]?=some zz_:=⟨_,List.getElem?_eq_getElem (by omega)⟩;refine bp 0 (fun w O=>(ix rfl rfl dp cL)) ?_;refine bp 0 (fun w O=>(ax (cs:=gi y) rfl kg cL (fun j u e=>bI (hY.sat O) (dB hy j u e)))) ?_;intro a I;refine K.sr I rfl rfl rfl (fun w O=>(xE (I.ev rfl) (I.ev rfl) GM Gf)) ?_ ?_
   ·clear I a;intro h24;intro a I;refine wpQuiet_nil ?_;clear O;intro w O;refine rE 13 I ?_;clear I a;refine aU ?_;refine⟨?_,O⟩;rw[decide_eq_false];intro h;rw[h,hy]at hx;cases hx;simp at h24
   ·clear I a;intro h24;intro a I;refine wpQuiet_nil ?_;clear O;intro w O;refine rE 6 I ?_;clear I a;refine u1 2 (ad rfl rfl) ?_;intro a I;replace I:=I.kp [0,1,12,13] rfl;refine⟨xs.length-(i+1),by omega,i+1,I,O,by omega,?_,rfl⟩;rw[aA hx,aA hy,he,show x=y from by cases x;cases y;simpa using h24]
  ·intro h14;refine uO 15 ?_;refine aU ?_;refine⟨?_,O⟩;rw[decide_eq_true];rwa[List.take_of_length_le (by omega),List.take_of_length_le (by omega)]at he
theorem AL (W:World)(W0:World)(L0:List As)(b:Nat)(r n:Int)(s:aN)(s0:Sat W0 W (aV b (.cells #[.int .i64 r,.int .i64 n] 214)::L0)):Calls Tryz.prog 195 #[.agg #[.int .i64 s.rep,.int .i64 s.lo,.int .i64 s.hi],.pointer (some ⟨b,0,none⟩)] W fun e w'=>e=.returned (.bool (sK s r n))∧Sat W w' []:=by
 refine bP Tryz.func195 [0,1] ?_;have O:=Sat.start W;refine uC 2 ?_;refine uB rfl O ?_;clear O;intro b2 w O;refine uO 5 ?_;refine u1 0 (aa rfl bT) ?_;refine u1 0 (ld rfl) ?_;refine u1 0 (aa rfl bw) ?_;refine u1 0 (an rfl dE (s0.rh O rfl)) ?_;refine aM 0 0 (aY rfl rfl) ?_ ?_
 ·intro h8;refine uO 1 ?_;refine u1 0 (aa rfl dU) ?_;refine u1 0 (ld rfl) ?_;refine u1 0 (aa rfl bN) ?_;refine u1 0 (an rfl dE (s0.rh O rfl)) ?_;refine aM 0 0 (dT rfl rfl) ?_ ?_
  ·intro h14;refine uO 2 ?_;refine u1 0 (aa rfl bN) ?_;refine u1 0 (an rfl dE (s0.rh O rfl)) ?_;refine u1 0 (aa rfl dV) ?_;refine u1 0 (ld rfl) ?_;refine u1 5 (dT rfl rfl) ?_;refine aU ?_;refine⟨?_,O.nil⟩;unfold sK
   congr 2
   rw[Bool.eq_iff_iff];simp only[Bool.and_eq_true,decide_eq_true_eq,Bool.false_eq_true,false_iff];omega
  ·intro h14;refine uO 12 ?_;refine aU ?_;refine⟨?_,O.nil⟩;unfold sK
   congr 2
   rw[Bool.eq_iff_iff];simp only[Bool.and_eq_true,decide_eq_true_eq,Bool.false_eq_true,false_iff];omega
 ·intro h8;refine uO 18 ?_;refine aU ?_;refine⟨?_,O.nil⟩;unfold sK
  congr 2
  rw[Bool.eq_iff_iff];simp only[Bool.and_eq_true,decide_eq_true_eq,Bool.false_eq_true,false_iff];omega
theorem vk (W:World)(W0:World)(L0:List As)(b:Nat)(r n:Int)(A:Option Addr)(c:Nat)(xs:List aN)(s0:Sat W0 W (aV b (.cells #[.int .i64 r,.int .i64 n] 214)::L0))(hX:gK W A c xs)(hl:xs.length≤1000000000000000):Calls Tryz.prog 245 #[.slice A (xs).length c,.func (.func 195) #[] #[.pointer (some ⟨b,0,none⟩)]] W fun e w'=>∃k:Int,e=.returned (.int .i64 k)∧decide (0≤k)=kq xs r n∧Sat W w' []:=by
 refine bP Tryz.func245 [0,1] ?_;have O:=Sat.start W;refine uC 9 ?_;refine u1 4 (ak rfl dp) ?_;intro a I;refine wp_loop_ghost (fun (mm:Nat) a w=>∃(i:Nat),Ag a 19 [(0,.slice A (xs).length c),(1,.func (.func 195) #[] #[.pointer (some ⟨b,0,none⟩)]),(7,.int .i64 ((xs.length:Nat):Int)),(8,.int .i64 ((i:Nat):Int))]∧Sat W w ([])∧(i≤xs.length)∧((xs.take i).any (fun s=>sK s r n)=false)∧mm=xs.length-i) xs.length ?_ ?_
 ·replace I:=I.kp [0,1,7,8] rfl;exact⟨0,I,O,(by omega),(by rfl),by omega⟩
 intro m a w hI;clear O I;obtain⟨i,I,O,hi,he,rfl⟩:=hI;refine rC 2 I ?_;clear I a;refine aM 0 0 (aq rfl rfl) ?_ ?_
 ·intro h9;refine uO 19 ?_;obtain⟨A_p,rfl⟩:∃q,A=some q:=(hX.sat O).ao (by omega);obtain⟨x,hx⟩:∃zz_,xs[i]?=some zz_:=⟨_,List.getElem?_eq_getElem (by omega)⟩;refine u1 0 (ix rfl rfl dp cL) ?_;refine u1 0 (ax (cs:=gi x) rfl kg cL (fun j u e=>bI (hX.sat O) (dB hx j u e))) ?_;intro a I;refine Bh I rfl IZ rfl rfl (AL _ _ _ b r n x (s0.ag O)) ?_;rintro e w ⟨rfl,hT⟩;replace O:Sat _ _ _:=O.ag hT;clear hT;generalize h16:(sK x r n)=bb;cases bb
  ·refine .inl ⟨_,rfl,?_⟩;clear I a;refine uO 7 ?_;refine u1 2 (ad rfl rfl) ?_;intro a I;replace I:=I.kp [0,1,7,8] rfl;refine⟨xs.length-(i+1),by omega,i+1,I,O,by omega,?_,rfl⟩;rw[aA hx,List.any_append,he];simp[h16]
  ·refine .inl ⟨_,rfl,?_⟩;clear I a;refine uO 15 ?_;refine aU ?_;refine⟨i,rfl,?_,O⟩;rw[iI,decide_eq_true (by omega)];exact (List.any_eq_true.2 ⟨x,List.mem_of_getElem? hx,h16⟩).symm
 ·intro h9;refine uO 15 ?_;refine aU ?_;refine⟨-1,rfl,?_,O⟩;rw[List.take_of_length_le (by omega)]at he;rw[iI,he];rfl
theorem oo (W:World)(W0:World)(L0:List As)(b:Nat)(r n:Int)(A:Option Addr)(c:Nat)(xs:List aN)(s0:Sat W0 W (aV b (.cells #[.int .i64 r,.int .i64 n] 214)::L0))(hX:gK W A c xs)(hl:xs.length≤1000000000000000):Calls Tryz.prog 194 #[.slice A (xs).length c,.func (.func 195) #[] #[.pointer (some ⟨b,0,none⟩)]] W fun e w'=>e=.returned (.bool (kq xs r n))∧Sat W w' []:=by
 refine bP Tryz.func194 [0,1] ?_;have O:=Sat.start W;refine uC 9 ?_;refine uF rfl (vk _ _ _ b r n A c xs (s0.ag O) (hX.sat O) hl) ?_;rintro e w ⟨k,rfl,hk,hT⟩;replace O:Sat _ _ _:=O.ag hT;clear hT;refine u1 4 (ek rfl rfl) ?_;refine aU ?_;exact⟨by rw[hk],O⟩
theorem wY (W:World)(p:PL)(r n:Int)(hp:p.ok W)(hlv:p.d.vec.length≤1000000000000)(hlc:p.d.ab.length≤1000000000000):Calls Tryz.prog 162 #[.agg #[.slice p.va p.d.vec.length p.vc,.slice p.ca p.d.ab.length p.cc],.agg #[.int .i64 r,.int .i64 n]] W fun e w'=>e=.returned (.bool (hasB p.d r n))∧Sat W w' []:=by
 refine bP Tryz.func162 [0,1] ?_;have O:=Sat.start W;obtain⟨va,vc,ca,cc,d⟩:=p;have hpv:kb W va vc d.vec:=hp.vec;have hpc:gK W ca cc d.ab:=hp.ab;intro a I;dsimp only at hlv hlc I ⊢;refine rC 2 I ?_;clear I a;refine uB rfl O ?_;clear O;intro b2 w O;refine uB rfl O ?_;clear O;intro b3 w O;refine uO 6 ?_;refine u1 0 (lS (cs:=[_,_]) rfl) ?_;refine uF rfl (sq _ r n) ?_;rintro e w ⟨rfl,hT⟩;replace O:Sat _ _ _:=O.ag hT;clear hT;generalize h6:(dG r n)=bb;cases bb
 ·refine u1 10 (aF rfl) ?_;refine aU ?_;refine⟨?_,O.nil⟩;rw[hasB,h6];rfl
 ·refine u1 7 (aF rfl) ?_;intro a I;refine cK (fun w'=>Sat _ w' _) (by kernel_rfl) (by kernel_rfl) O.drew ?_;refine Q1 0 I (fun w O=>(aa (I.ev rfl) bw)) ?_;clear I a;refine bp 0 (fun w O=>(ld rfl)) ?_;refine bp 0 (fun w O=>(aa rfl cy)) ?_;refine bp 0 (fun w O=>(ld rfl)) ?_;refine bp 0 (fun w O=>(ak rfl aB)) ?_;intro a I;refine K.sr I rfl rfl rfl (fun w O=>(aq (I.ev rfl) (I.ev rfl))) ?_ ?_
  ·clear I a;intro h13;have hdot:=h6;intro a I;unfold dG at hdot;simp only[Bool.and_eq_true,decide_eq_true_eq]at hdot;refine rQ 1 I ?_;clear I a;refine bp 0 (fun w O=>(aa rfl bN)) ?_;refine bp 0 (fun w O=>(ld rfl)) ?_;refine bp 0 (fun w O=>(aa rfl cy)) ?_;refine bp 0 (fun w O=>(ld rfl)) ?_;refine bp 0 (fun w O=>(aa rfl bw)) ?_;refine bp 0 (fun w O=>(ld rfl)) ?_;obtain⟨va_p,rfl⟩:∃q,va=some q:=(hpv.sat O).ao (by omega);obtain⟨v,hv⟩:∃zz_,d.vec[r.toNat]?=some zz_:=⟨_,List.getElem?_eq_getElem (by omega)⟩;refine bp 0 (fun w O=>(ix rfl rfl aB fS)) ?_;refine bp 0 (fun w O=>(an rfl dE (gb (hpv.sat O) (bu hv)))) ?_;intro a I;refine K.o0 I (aT I rfl rfl rfl) rfl rfl (fun w O=>(dT (I.ev rfl) (I.ev rfl))) ?_ ?_
   ·clear I a;intro h23;refine uQ 1 ?_;intro a I;refine wpQuiet_nil ?_;clear O;intro w O;refine rE 9 I ?_;clear I a;refine aU ?_;refine⟨?_,O.nil⟩;have hv2:iE d.vec r n=true:=by unfold iE;rw[hv];simp;omega
    rw[hasB,h6,hv2];simp
   ·clear I a;intro h23;refine uQ 1 ?_;intro a I;refine wpQuiet_nil ?_;clear O;intro w O;refine rE 6 I ?_;clear I a;refine u1 0 (aa rfl bX) ?_;refine u1 0 (ld rfl) ?_;intro a I;refine o1 0 I (qM (I.mw rfl)) ?_;clear I a;refine uF rfl (oo _ _ _ _ r n ca cc d.ab O (hpc.sat O) (by omega)) ?_;rintro e w ⟨rfl,hT⟩;replace O:Sat _ _ _:=O.ag hT;clear hT;refine uO 3 ?_;intro a I;replace I:=I.kp [4] rfl;refine rC 1 I ?_;clear I a;refine aU ?_;refine⟨?_,O.nil⟩;have hv2:iE d.vec r n=false:=by unfold iE;rw[hv];simp;omega
    rw[hasB,h6,hv2];simp
  ·clear I a;intro h13;refine uQ 11 ?_;intro a I;refine wpQuiet_nil ?_;clear O;intro w O;refine rE 6 I ?_;clear I a;refine u1 0 (aa rfl bX) ?_;refine u1 0 (ld rfl) ?_;intro a I;refine o1 0 I (qM (I.mw rfl)) ?_;clear I a;refine uF rfl (oo _ _ _ _ r n ca cc d.ab O (hpc.sat O) (by omega)) ?_;rintro e w ⟨rfl,hT⟩;replace O:Sat _ _ _:=O.ag hT;clear hT;refine uO 3 ?_;intro a I;replace I:=I.kp [4] rfl;refine rC 1 I ?_;clear I a;refine aU ?_;refine⟨?_,O.nil⟩;have hv2:iE d.vec r n=false:=by unfold iE;rw[List.getElem?_eq_none (by omega)]
   rw[hasB,h6,hv2];simp
theorem lO (W:World)(B:Option Addr)(d:Nat)(p:PL)(hB:Rd W 2 (.slice B 1 d) 1 ([p].flatMap om))(hp:p.ok W)(hl:p.d.ab.length≤10000000000) :
 Calls Tryz.prog 191 #[.slice B 1 d] W fun e w'=>∃t ls,e=.returned (.pointer (some ⟨t,0,none⟩))∧gT ls (cO p.d)∧Sat W w' [j5 355 t ls,br (ls.map (Loc.jm 357))]:=by
 refine (ug W B d [p] hB (fun q hq=>by simp at hq;subst hq;exact hp) (by simp) (by simp[cP];omega)).mono ?_;rintro e w' ⟨t,ls,he,hT,O⟩;exact⟨t,ls,he,hT.congr fun r _=>by simp[gl],O⟩
theorem ru {p:aK}(h:p.ab.length≤10000000000):∀r,r<16→(cO p r).length≤100000000000:=fun r _=>by have:=ed p r;omega
theorem cq (W:World)(p:PL)(hp:p.ok W)(hlc:p.d.ab.length≤10000000000):Calls Tryz.prog 157 #[.agg #[.slice p.va p.d.vec.length p.vc,.slice p.ca p.d.ab.length p.cc]] W fun e w'=>∃q:PL,e=.returned (.agg #[.slice q.va q.d.vec.length q.vc,.slice q.ca q.d.ab.length q.cc])∧q.d=gU p.d∧Sat W w' [cN 3 q.va q.vc q.d.vec,bH 219 q.ca q.cc q.d.ab]:=by
 refine bP Tryz.func157 [0] ?_;have O:=Sat.start W;refine uC 2 ?_;refine uB rfl O ?_;clear O;intro b1 w O;refine uN dN O ?_;clear O;intro b2 w O;refine uO 4 ?_;refine u1 0 (lS (cs:=[_,_]) rfl) ?_;intro a I;refine jl (vss:=[[_,_]]) I rfl rfl fN pA rfl rfl rfl (by simp) rfl O ?_;clear I a O;intro A4 w O;refine uF rfl (lO _ _ _ p O.rd (hp.sat O) hlc) ?_;rintro e w ⟨t,ls,rfl,hT,hT2⟩;replace O:Sat _ _ (_::_::_):=O.ag hT2;clear hT2;refine uF rfl (lR _ _ _ t ls (cO p.d) O hT (ru hlc)) ?_;rintro e w ⟨q,rfl,hq,hT2⟩;replace O:Sat _ _ (_::_::_):=O.ag hT2;clear hT2;refine uW (vs:=[_,_]) (cs':=[_,_]) rfl rfl bj (O.p 5) ?_;clear O;intro w O;refine uO 3 ?_;intro a I;refine gP I rfl (dj (cs:=[_,_]) I rfl fy bj (by exact O.aE (xs:=[_,_]) rfl)) ?_;exact⟨q,rfl,hq,oW ((O.p 2).p 2)⟩
theorem lQ (W:World)(A:Option Addr)(c:Nat)(ps:List PL)(hR:AG W A c ps)(hE:∀p∈ps,p.ok W)(hn:ps.length≤1000000000000)(ht:cP (ps.map PL.d)≤100000000000):Calls Tryz.prog 342 #[.slice A (ps).length c] W fun e w'=>∃q:PL,e=.returned (.agg #[.slice q.va q.d.vec.length q.vc,.slice q.ca q.d.ab.length q.cc])∧q.d=iH (ps.map PL.d)∧Sat W w' [cN 3 q.va q.vc q.d.vec,bH 219 q.ca q.cc q.d.ab]:=by
 refine bP Tryz.func342 [0] ?_;have O:=Sat.start W;refine uC 2 ?_;refine uN dN O ?_;clear O;intro b2 w O;refine uO 5 ?_;refine uF rfl (ug _ A c ps (hR.sat O) (fun p hp=>(hE p hp).sat O) hn (by omega)) ?_;rintro e w ⟨t,ls,rfl,hT,hT2⟩;replace O:Sat _ _ (_::_::_):=O.ag hT2;clear hT2;refine uF rfl (lR _ _ _ t ls (gl (ps.map PL.d)) O hT (fun r _=>Nat.le_trans (kA _ r) ht)) ?_;rintro e w ⟨q,rfl,hq,hT2⟩;replace O:Sat _ _ (_::_::_):=O.ag hT2;clear hT2;refine uW (vs:=[_,_]) (cs':=[_,_]) rfl rfl bj (O.p 4) ?_;clear O;intro w O;refine uO 3 ?_;intro a I;refine gP I rfl (dj (cs:=[_,_]) I rfl fy bj (by exact O.aE (xs:=[_,_]) rfl)) ?_;exact⟨q,rfl,hq,oW ((O.p 2).p 2)⟩
theorem fC (W:World)(p:PL)(hp:p.ok W)(hlc:p.d.ab.length≤10000000000)(hlv:p.d.vec.length≤1000000000000):Calls Tryz.prog 121 #[.agg #[.slice p.va p.d.vec.length p.vc,.slice p.ca p.d.ab.length p.cc]] W fun e w'=>e=.returned (.bool (bL p.d))∧Sat W w' []:=by
 refine bP Tryz.func121 [0] ?_;have O:=Sat.start W;refine uC 2 ?_;refine uB rfl O ?_;clear O;intro b1 w O;refine uO 5 ?_;refine u1 0 (lS (cs:=[_,_]) rfl) ?_;refine uF rfl (cq _ p (hp.sat O) hlc) ?_;rintro e w ⟨q,rfl,hq,hT⟩;have hcn:=i6 p.d;rw[←hq]at hcn;have hcv:=hcn.len;have hcl:=jG p.d;rw[←hq]at hcl;replace O:Sat _ _ (_::_::_):=O.ag hT;clear hT;refine uN dN O ?_;clear O;intro b3 w O;refine uW (vs:=[_,_]) (cs':=[_,_]) rfl rfl bj O ?_;clear O;intro w O;refine uO 4 ?_;refine u1 0 (aa rfl cy) ?_;refine u1 0 (ld rfl) ?_;refine u1 0 (aa rfl cy) ?_;refine u1 0 (ld rfl) ?_;refine uF rfl (CU _ p.va p.vc p.d.vec q.va q.vc q.d.vec (hp.vec.sat O) (O.p 1).rd (by omega) (by omega)) ?_;rintro e w ⟨rfl,hT⟩;replace O:Sat _ _ _:=O.ag hT;clear hT;generalize h10:(decide (p.d.vec=q.d.vec))=bb;cases bb
 ·refine uO 11 ?_;refine aU ?_;refine⟨?_,O.nil⟩
  congr 2
  unfold bL;rw[←hq,eq_comm,decide_eq_false];intro h;rw[h]at h10;simp at h10
 ·refine uO 1 ?_;refine u1 0 (aa rfl bX) ?_;refine u1 0 (ld rfl) ?_;refine u1 0 (aa rfl bX) ?_;refine u1 0 (ld rfl) ?_;refine jL rfl (Dw _ p.ca p.cc p.d.ab q.ca q.cc q.d.ab (hp.ab.sat O) (O.p 2).rd (by omega) (by omega)) ?_;rintro e w ⟨rfl,hT⟩;replace O:Sat _ _ _:=O.ag hT;clear hT;generalize h16:(decide (p.d.ab=q.d.ab))=bb;cases bb
  ·refine uO 5 ?_;refine aU ?_;refine⟨?_,O.nil⟩
   congr 2
   unfold bL;rw[←hq,eq_comm,decide_eq_false];intro h;rw[h]at h16;simp at h16
  ·refine uO 5 ?_;refine aU ?_;refine⟨?_,O.nil⟩
   congr 2
   unfold bL;rw[←hq,eq_comm,decide_eq_true];simp only[decide_eq_true_eq]at h10 h16;exact uM h10.symm h16.symm
theorem yJ (W:World)(p:PL)(hp:p.ok W)(hlc:p.d.ab.length≤10000000000):Calls Tryz.prog 170 #[.agg #[.slice p.va p.d.vec.length p.vc,.slice p.ca p.d.ab.length p.cc]] W fun e w'=>e=.returned (.int .i64 (B9 p.d))∧Sat W w' []:=by
 refine bP Tryz.func170 [0] ?_;have O:=Sat.start W;refine uC 2 ?_;refine uB rfl O ?_;clear O;intro b1 w O;refine uO 11 ?_;refine u1 0 (lS (cs:=[_,_]) rfl) ?_;intro a I;refine jl (vss:=[[_,_]]) I rfl rfl fN pA rfl rfl rfl (by simp) rfl O ?_;clear I a O;intro A7 w O;refine uF rfl (lO _ _ _ p O.rd (hp.sat O) hlc) ?_;rintro e w ⟨t,ls,rfl,hT,hT2⟩;replace O:Sat _ _ (_::_::_):=O.ag hT2;clear hT2;refine u1 4 (aX rfl) ?_;intro a I;refine wp_loop_ghost (fun (mm:Nat) a w=>∃(r:Nat),Ag a 21 [(3,.int .i64 (((List.range r).map fun r=>cY (aO p.d r)).sum)),(8,.pointer (some ⟨t,0,none⟩)),(10,.int .i64 ((r:Nat):Int))]∧Sat W w ([j5 355 t ls,br (ls.map (Loc.jm 357))])∧(r≤16)∧mm=16-r) 16 ?_ ?_
 ·replace I:=I.kp [3,8,10] rfl;exact⟨0,I,oW O,(by omega),by omega⟩
 intro m a w hI;clear O I;obtain⟨r,I,O,hr,rfl⟩:=hI;refine rC 2 I ?_;clear I a;refine aM 0 0 (aq rfl rfl) ?_ ?_
 ·intro h11;obtain⟨lA,lc,hl⟩:=hT.get (show r<16 by omega);have hst:=s5 p.d r;have hst2:=s5 p.d (r+1);intro a I;rw[rD]at hst2;have hrl:=ru hlc r (by omega);refine rO 10 I ?_;clear I a;refine u1 0 (aX rfl) ?_;refine u1 0 (iA rfl rfl lN iY) ?_;refine u1 6 (an rfl kZ (gV O hl)) ?_;refine uF rfl (Az _ lA lc (cO p.d r) (rl O.qu hl) (by omega)) ?_;rintro e w ⟨rfl,hT2⟩;replace O:Sat _ _ _:=O.ag hT2;clear hT2;refine u1 5 (ad rfl rfl) ?_;refine u1 2 (ad rfl rfl) ?_;intro a I;replace I:=I.kp [3,8,10] rfl;rw[←rD]at I;exact⟨16-(r+1),by omega,r+1,I,O,by omega,rfl⟩
 ·intro h11;refine uO 16 ?_;refine aU ?_;obtain rfl:r=16:=by omega
  exact⟨rfl,O.nil⟩
theorem gE (W:World)(p:PL)(hp:p.ok W)(hlc:p.d.ab.length≤10000000000):Calls Tryz.prog 125 #[.agg #[.slice p.va p.d.vec.length p.vc,.slice p.ca p.d.ab.length p.cc]] W fun e w'=>e=.returned (.bool (eo p.d))∧Sat W w' []:=by
 refine bP Tryz.func125 [0] ?_;have O:=Sat.start W;refine uC 2 ?_;refine uB rfl O ?_;clear O;intro b1 w O;refine uO 5 ?_;refine u1 0 (lS (cs:=[_,_]) rfl) ?_;refine uF rfl (yJ _ p (hp.sat O) hlc) ?_;rintro e w ⟨rfl,hT2⟩;replace O:Sat _ _ _:=O.ag hT2;clear hT2;refine u1 4 (aY rfl rfl) ?_;refine aU ?_;exact⟨rfl,O.nil⟩
end Go.Proofs.YtkjabaihpkbfhaaGreat.Wk
namespace Go.Proofs.YtkjabaihpkbfhaaGreat.K
open Go Go.RowKit
variable {P:Program} {ops:Array Oper} {a:Act} {n:Nat} {E:Env} {w:World} {d:Nat} {ds:List Deferred} {x:Operand} {Q:Exit→Act→World→Prop}
theorem eV {i:Nat}{K:Act→World→Prop}{f:Nat}{l:List Operand}{tys:Array TypeId}{vs caps:List Value}{ty:TypeId}{ps:String}{af:Array Edge}{R:Ending→World→Prop}(I:Ag a n E ds)(hi:ops[i]?=some ⟨some d,.call { callee:=.value x,args:=l.toArray,argTypes:=tys },ty,ps,af,none⟩)
 (hn:Nat.blt d n=true) (hf:enters P f=true) (hx:fH E x=some (.func (.func f) #[] caps.toArray)) (hv:mw E l=some vs) (hc:Calls P f (vs++caps).toArray w R) (k:∀e w',R e w'→∃v,e=.returned v∧∀a',Ag a' n ((d,v)::E) ds→K a' w'):wpOp P ops Q i K a w:=by
 unfold wpOp;simp only[hi];rw[if_pos (by simp[Region.wanted])];refine .inl ?_;have hr:=xf (P:=P) (w:=w) (dd:=some d) (ty:=ty) (ps:=ps) (af:=af) (g:=none) (tys:=tys) I hf hx hv;simp only[Oper.wp,hr,Oper.upon];refine hc.mono fun e w' h=>?_;obtain⟨v,rfl,hk⟩:=k e w' h;exact hk _ (I.put hn v)
end Go.Proofs.YtkjabaihpkbfhaaGreat.K
namespace Go.Proofs.YtkjabaihpkbfhaaGreat.Wk
open Go Go.RowKit Go.Proofs.YtkjabaihpkbfhaaGreat Go.Proofs.YtkjabaihpkbfhaaGreat.K Go.Proofs.YtkjabaihpkbfhaaGreat.T
theorem kS {xs:List Int}{i:Nat}{x:Int}(h:xs[i]?=some x)(h0:cx (xs.take i)=0)(hx:x≠0):cx xs=x:=by
 conv=>lhs;rw[←List.take_append_drop i xs,cd,if_pos h0,aH h,cx,if_neg hx]
theorem kD {xs:List Int}{i:Nat}{x:Int}(h:xs[i]?=some x)(h0:cx (xs.take i)=0)(hx:x=0):cx (xs.take (i+1))=0:=by
 rw[aA h,cd,if_pos h0,cx,if_pos hx];rfl
theorem dv {v:List Int}{r:Nat}{x:Int}(h:v[r]?=some x):av v r=x:=by unfold av;rw[h]
theorem j8 {x y:Int}(h:x≠y):gu x y≠0:=fun e=>h (ew.1 e)
theorem sI (W:World)(x:Int)  : Calls Tryz.prog 414 #[.int .i64 x] W fun e w'=>e=.returned (.bool false)∧Sat W w' []:=by
 refine bP Tryz.func414 [0] ?_;have O:=Sat.start W;refine uC 9 ?_;refine u1 4 (cQ (aD rfl rfl) (by omega)) ?_;refine aU ?_;exact⟨rfl,O⟩
theorem gC (W:World)(x y:Int)  : Calls Tryz.prog 398 #[.int .i64 x,.int .i64 y] W fun e w'=>e=.returned (.int .i64 (gu x y))∧Sat W w' []:=by
 refine bP Tryz.func398 [0,1] ?_;have O:=Sat.start W;refine uC 8 ?_;refine uF rfl (sI _ x) ?_;rintro e w ⟨rfl,hT⟩;replace O:Sat _ _ _:=O.ag hT;clear hT
 ·refine uO 6 ?_;refine uF rfl (sI _ y) ?_;rintro e w ⟨rfl,hT⟩;replace O:Sat _ _ _:=O.ag hT;clear hT
  ·refine uO 26 ?_;refine aM 0 0 (aq rfl rfl) ?_ ?_
   ·intro h16;refine uO 2 ?_;intro a I;replace I:=I.kp [0,1,4,16] rfl;refine rC 8 I ?_;clear I a;refine aU ?_;refine⟨?_,O⟩;unfold gu
    (repeat' split)<;>rfl
   ·intro h16;refine uO 2 ?_;intro a I;replace I:=I.kp [0,1,4,16] rfl;refine rC 8 I ?_;clear I a;refine aM 0 0 (db rfl rfl) ?_ ?_
    ·intro h19;refine uO 10 ?_;refine aU ?_;refine⟨?_,O⟩;unfold gu
     (repeat' split)<;>first | rfl | omega
    ·intro h19;refine uO 11 ?_;refine aU ?_;refine⟨?_,O⟩;unfold gu
     (repeat' split)<;>first | rfl | omega
theorem Fa (W:World)(A:Option Addr)(c:Nat)(xs:List Int)(hX:kb W A c xs)(hl:xs.length≤1000000000000):Calls Tryz.prog 401 #[.slice A (xs).length c] W fun e w'=>e=.returned (.int .i64 (cx xs))∧Sat W w' []:=by
 refine bP Tryz.func401 [0] ?_;have O:=Sat.start W;refine uC 14 ?_;refine u1 4 (ak rfl aB) ?_;intro a I;refine wp_loop_ghost (fun (mm:Nat) a w=>∃(i:Nat),Ag a 18 [(3,.int .i64 0),(6,.slice A (xs).length c),(7,.int .i64 ((xs.length:Nat):Int)),(8,.int .i64 ((i:Nat):Int))]∧Sat W w ([])∧(i≤xs.length)∧(cx (xs.take i)=0)∧mm=xs.length-i) xs.length ?_ ?_
 ·replace I:=I.kp [3,6,7,8] rfl;exact⟨0,I,O,(by omega),(by rfl),by omega⟩
 intro m a w hI;clear O I;obtain⟨i,I,O,hi,he,rfl⟩:=hI;refine rC 2 I ?_;clear I a;refine aM 0 0 (aq rfl rfl) ?_ ?_
 ·intro h9;refine uO 10 ?_;obtain⟨A_p,rfl⟩:∃q,A=some q:=(hX.sat O).ao (by omega);obtain⟨x,hx⟩:∃zz_,xs[i]?=some zz_:=⟨_,List.getElem?_eq_getElem (by omega)⟩;refine u1 0 (ix rfl rfl aB fS) ?_;refine u1 7 (an rfl dE (gb (hX.sat O) (bu hx))) ?_;refine aM 0 0 (aD rfl rfl) ?_ ?_
  ·intro h14;refine uO 15 ?_;refine aU ?_;exact⟨by rw[kS hx he h14],O⟩
  ·intro h14;refine uO 7 ?_;refine u1 2 (ad rfl rfl) ?_;intro a I;replace I:=I.kp [3,6,7,8] rfl;exact⟨xs.length-(i+1),by omega,i+1,I,O,by omega,kD hx he (by omega),rfl⟩
 ·intro h9;refine uO 16 ?_;refine aU ?_;rw[List.take_of_length_le (by omega)]at he;exact⟨by rw[he],O⟩
theorem tK (W:World)(s t:aN)  : Calls Tryz.prog 400 #[.agg #[.int .i64 s.rep,.int .i64 s.lo,.int .i64 s.hi],.agg #[.int .i64 t.rep,.int .i64 t.lo,.int .i64 t.hi]] W fun e w'=>e=.returned (.int .i64 (i7 s t))∧Sat W w' []:=by
 refine bP Tryz.func400 [0,1] ?_;have O:=Sat.start W;refine uC 2 ?_;refine uB rfl O ?_;clear O;intro b2 w O;refine uB rfl O ?_;clear O;intro b3 w O;refine uO 4 ?_;intro a I;refine bg [14,15,16] O (by kernel_rfl) ?_;replace O:=O.drew;refine P1 0 [] I rfl (fun w=>(aa (I.ev rfl) bT)) ?_;clear I a
 refine cW 1 [] rfl (by exact⟨[],O⟩) (fun w hT=>have O:=hT.sat;(ld rfl)) ?_;refine bA 2 [] rfl (fun w=>(aa rfl bT)) ?_;refine cW 3 [] rfl (by exact⟨[],O⟩) (fun w hT=>have O:=hT.sat;(ld rfl)) ?_;refine bA 5 [] rfl (fun w=>(aa rfl dU)) ?_;refine cW 6 [] rfl (by exact⟨[],O⟩) (fun w hT=>have O:=hT.sat;(ld rfl)) ?_;refine bA 7 [] rfl (fun w=>(aa rfl dU)) ?_;refine cW 8 [] rfl (by exact⟨[],O⟩) (fun w hT=>have O:=hT.sat;(ld rfl)) ?_;refine bA 10 [] rfl (fun w=>(aa rfl dV)) ?_;refine cW 11 [] rfl (by exact⟨[],O⟩) (fun w hT=>have O:=hT.sat;(ld rfl)) ?_;refine bA 12 [] rfl (fun w=>(aa rfl dV)) ?_;refine cW 13 [] rfl (by exact⟨[],O⟩) (fun w hT=>have O:=hT.sat;(ld rfl)) ?_;intro a I;refine aG 4 (by kernel_rfl) ?_;refine eF I rfl rfl Ew rfl (gC _ s.rep t.rep) ?_
 clear I a;rintro e w ⟨rfl,hT⟩;replace O:Sat _ _ _:=O.ag hT;clear hT;refine⟨_,rfl,?_⟩;intro a I;refine⟨.inr fun _=>(by exact⟨[],O⟩),?_⟩;refine aG 9 (by kernel_rfl) ?_;refine eF I rfl rfl Ew rfl (gC _ s.lo t.lo) ?_;clear I a;rintro e w ⟨rfl,hT⟩;replace O:Sat _ _ _:=O.ag hT;clear hT;refine⟨_,rfl,?_⟩;intro a I;refine⟨.inr fun _=>(by exact⟨[],O⟩),?_⟩;refine aG 14 (by kernel_rfl) ?_;refine eF I rfl rfl Ew rfl (gC _ s.hi t.hi) ?_;clear I a;rintro e w ⟨rfl,hT⟩;replace O:Sat _ _ _:=O.ag hT;clear hT;refine⟨_,rfl,?_⟩;intro a I;refine⟨.inl rfl,?_⟩;refine aG 15 (by kernel_rfl) ?_;refine eL I rfl rfl rfl aB jW rfl rfl rfl (by simp[Value.oneCell']) O ?_;clear I a O;intro A20 w O;intro a I;refine⟨.inl rfl,?_⟩;refine aG 16 (by kernel_rfl) ?_
 refine eF I rfl rfl IA rfl (Fa _ _ _ [gu s.rep t.rep,gu s.lo t.lo,gu s.hi t.hi] O.rd (by simp)) ?_;clear I a;rintro e w ⟨rfl,hT⟩;replace O:Sat _ _ _:=O.ag hT;clear hT;refine⟨_,rfl,?_⟩;intro a I;refine⟨.inl rfl,?_⟩;refine rX [17] I ?_;clear I a;intro a I;refine ah (by kernel_rfl) ?_ _;refine rE 2 I ?_;clear I a;refine aU ?_;exact⟨rfl,O.nil⟩
theorem ui (W:World)(A:Option Addr)(c:Nat)(xs:List aN)(B:Option Addr)(d:Nat)(ys:List aN)(hX:gK W A c xs)(hY:gK W B d ys)(hlx:xs.length≤1000000000000000)(hly:ys.length≤1000000000000000):Calls Tryz.prog 399 #[.slice A (xs).length c,.slice B (ys).length d,.func (.func 400) #[] #[]] W fun e w'=>e=.returned (.int .i64 (dm xs ys))∧Sat W w' []:=by
 refine bP Tryz.func399 [0,1,2] ?_;have O:=Sat.start W;refine uC 9 ?_;refine u1 4 (ak rfl dp) ?_;intro a I;refine wp_loop_ghost (fun (mm:Nat) a w=>∃(i:Nat),Ag a 39 [(0,.slice A (xs).length c),(1,.slice B (ys).length d),(2,.func (.func 400) #[] #[]),(11,.slice A (xs).length c),(12,.int .i64 ((xs.length:Nat):Int)),(13,.int .i64 ((i:Nat):Int))]∧Sat W w ([])∧(i≤xs.length)∧(i≤ys.length)∧(dm (xs.drop i) (ys.drop i)=dm xs ys)∧mm=xs.length-i) xs.length ?_ ?_
 ·replace I:=I.kp [0,1,2,11,12,13] rfl;exact⟨0,I,O,(by omega),(by omega),(by rfl),by omega⟩
 intro m a w hI;clear O I;obtain⟨i,I,O,hi,hj,he,rfl⟩:=hI;refine rC 2 I ?_;clear I a;refine aM 0 0 (aq rfl rfl) ?_ ?_
 ·intro h14;refine uO 11 ?_;obtain⟨A_p,rfl⟩:∃q,A=some q:=(hX.sat O).ao (by omega);obtain⟨x,hx⟩:∃zz_,xs[i]?=some zz_:=⟨_,List.getElem?_eq_getElem (by omega)⟩;refine u1 0 (ix rfl rfl dp cL) ?_;refine u1 0 (ax (cs:=gi x) rfl kg cL (fun j u e=>bI (hX.sat O) (dB hx j u e))) ?_;refine uN mz O ?_;clear O;intro b8 w O;refine uO 1 ?_;refine uW (vs:=[_,_,_]) (cs':=[_,_,_]) rfl rfl cL O ?_;clear O;intro w O;refine uO 7 ?_;refine u1 0 (ak rfl dp) ?_;refine aM 0 0 (ek rfl rfl) ?_ ?_
  ·intro h21;refine uO 15 ?_;refine aU ?_;rw[aH hx,List.drop_of_length_le (by omega:ys.length≤i),dm]at he;exact⟨by rw[←he],O.nil⟩
  ·intro h21;refine uO 9 ?_;obtain⟨B_p,rfl⟩:∃q,B=some q:=(hY.sat O).ao (by omega);obtain⟨y,hy⟩:∃zz_,ys[i]?=some zz_:=⟨_,List.getElem?_eq_getElem (by omega)⟩;refine u1 0 (ix rfl rfl dp cL) ?_;refine u1 0 (ax (cs:=gi y) rfl kg cL (fun j u e=>bI (hY.sat O) (dB hy j u e))) ?_;refine uN mz O ?_;clear O;intro b9 w O;refine uW (vs:=[_,_,_]) (cs':=[_,_,_]) rfl rfl cL O ?_;clear O;intro w O;refine uO 5 ?_;refine u1 0 (lS (cs:=[_,_,_]) rfl) ?_;refine u1 0 (lS (cs:=[_,_,_]) rfl) ?_;intro a I;refine Bh I rfl HM rfl rfl (tK _ x y) ?_;rintro e w ⟨rfl,hT⟩;replace O:Sat _ _ _:=O.ag hT;clear hT
   ·refine .inl ⟨_,rfl,?_⟩;clear I a;refine uO 6 ?_;refine aM 0 0 (aD rfl rfl) ?_ ?_
    ·intro h31;refine uO 15 ?_;refine aU ?_;rw[aH hx,aH hy,dm,if_neg (by omega)]at he;exact⟨by rw[←he],O.nil⟩
    ·intro h31;refine uO 7 ?_;refine u1 2 (ad rfl rfl) ?_;intro a I;replace I:=I.kp [0,1,2,11,12,13] rfl;rw[aH hx,aH hy,dm,if_pos (by omega)]at he;exact⟨xs.length-(i+1),by omega,i+1,I,O.nil,by omega,by omega,he,rfl⟩
 ·intro h14;refine uO 13 ?_;refine u1 1 (ak rfl dp) ?_;refine u1 0 (ak rfl dp) ?_;refine aM 0 0 (aq rfl rfl) ?_ ?_
  ·intro h38;refine uO 8 ?_;intro a I;replace I:=I.kp [6] rfl;refine rC 2 I ?_;clear I a;refine aU ?_;obtain⟨y,hy⟩:∃y,ys[i]?=some y:=⟨_,List.getElem?_eq_getElem (by omega)⟩;rw[aH hy,List.drop_of_length_le (by omega:xs.length≤i),dm]at he;exact⟨by rw[←he],O.nil⟩
  ·intro h38;refine uO 11 ?_;refine aU ?_;rw[List.drop_of_length_le (by omega:xs.length≤i),List.drop_of_length_le (by omega:ys.length≤i),dm]at he;exact⟨by rw[←he],O.nil⟩
theorem vq (W:World)(p q:PL)(hp:p.ok W)(hq:q.ok W)(hlp:p.d.ab.length≤10000000000)(hlq:q.d.ab.length≤10000000000):Calls Tryz.prog 387 #[.agg #[.slice p.va p.d.vec.length p.vc,.slice p.ca p.d.ab.length p.cc],.agg #[.slice q.va q.d.vec.length q.vc,.slice q.ca q.d.ab.length q.cc]] W fun e w'=>e=.returned (.int .i64 (p4 p.d q.d))∧Sat W w' []:=by
 refine bP Tryz.func387 [0,1] ?_;have O:=Sat.start W;refine uC 2 ?_;refine uB rfl O ?_;clear O;intro b2 w O;refine uB rfl O ?_;clear O;intro b3 w O;refine uO 3 ?_;intro a I;replace I:=I.kp [2,3,4] rfl;refine cf (fun a w=>∃(b5 b6:Nat) (x y:PL),Ag a 49 [(4,.int .i64 0),(5,.pointer (some ⟨b5,0,none⟩)),(6,.pointer (some ⟨b6,0,none⟩))]∧Sat W w ([aV b5 (.cells #[.slice x.va x.d.vec.length x.vc,.slice x.ca x.d.ab.length x.cc] 63),aV b6 (.cells #[.slice y.va y.d.vec.length y.vc,.slice y.ca y.d.ab.length y.cc] 63),cN 3 x.va x.vc x.d.vec,bH 219 x.ca x.cc x.d.ab,cN 3 y.va y.vc y.d.vec,bH 219 y.ca y.cc y.d.ab])∧(x.d=gU p.d)∧(y.d=gU q.d)) ?_ ?_
 ·refine bg [3,6,7] O (by kernel_rfl) ?_;replace O:=O.drew;refine X1 0 [] I rfl (by exact⟨[],O⟩) (fun w hT=>have O:=hT.sat;(ax (cs:=[_,_]) (I.ev rfl) fy bj (by exact (O.p 1).aE (xs:=[_,_]) rfl))) ?_;clear I a;refine cW 2 [] rfl (by exact⟨[],O⟩) (fun w hT=>have O:=hT.sat;(lS (cs:=[_,_]) rfl)) ?_;intro a I;refine DN 1 4 5 (by kernel_rfl) ?_ ?_ ?_
  ·refine eF I rfl rfl jF rfl (cq _ p (hp.sat O) hlp) ?_;clear I a;rintro e w ⟨x,rfl,hx,hT⟩;replace O:Sat _ _ (_::_::_):=O.ag hT;clear hT;refine⟨_,rfl,?_⟩;intro a I;refine⟨.inr fun _=>(by exact⟨[_,_],O⟩),?_⟩;refine DN 3 4 5 (by kernel_rfl) ?_ ?_ ?_
   ·refine eF I rfl rfl jF rfl (cq _ q (hq.sat O) hlq) ?_;clear I a;rintro e w ⟨y,rfl,hy,hT⟩;replace O:Sat _ _ (_::_::_):=O.ag hT;clear hT;refine⟨_,rfl,?_⟩;intro a I;refine⟨.inl rfl,?_⟩;refine np 4 5 (by kernel_rfl) ?_ ?_
    ·refine eN I rfl rfl dN O ?_;clear I a O;intro b5 w O;intro a I;refine⟨.inr fun _=>(by exact⟨[_,_,_,_,_],O⟩),?_⟩;refine aG 5 (by kernel_rfl) ?_;refine eN I rfl rfl dN O ?_;clear I a O;intro b6 w O;intro a I;refine⟨.inr fun _=>(by exact⟨[_,_,_,_,_,_],O⟩),?_⟩;refine aG 6 (by kernel_rfl) ?_;refine dr (vs:=[_,_]) (cs':=[_,_]) I rfl rfl rfl bj (by simp[Value.oneCell']) (O.p 1) rfl rfl ?_;clear O;intro w O;refine⟨.inl rfl,?_⟩;refine aG 7 (by kernel_rfl) ?_;refine dr (vs:=[_,_]) (cs':=[_,_]) I rfl rfl rfl bj (by simp[Value.oneCell']) (O.p 1) rfl rfl ?_;clear O;intro w O;refine⟨.inl rfl,?_⟩;refine ah (by kernel_rfl) ?_ _;replace I:=I.kp [4,5,6] rfl
     first
      | exact⟨b5,b6,x,y,I,((((((O.p 3).p 3).p 5).p 5).p 4).p 5).de [_,_,_,_,_,_],(by exact hx),(by exact hy)⟩
    ·refine eN I rfl rfl dN O ?_;clear I a O;intro b6 w O;intro a I;refine⟨.inr fun _=>(by exact⟨[_,_,_,_,_],O⟩),?_⟩;refine aG 4 (by kernel_rfl) ?_;refine eN I rfl rfl dN O ?_;clear I a O;intro b5 w O;intro a I;refine⟨.inr fun _=>(by exact⟨[_,_,_,_,_,_],O⟩),?_⟩;refine aG 6 (by kernel_rfl) ?_;refine dr (vs:=[_,_]) (cs':=[_,_]) I rfl rfl rfl bj (by simp[Value.oneCell']) O rfl rfl ?_;clear O;intro w O;refine⟨.inl rfl,?_⟩;refine aG 7 (by kernel_rfl) ?_;refine dr (vs:=[_,_]) (cs':=[_,_]) I rfl rfl rfl bj (by simp[Value.oneCell']) (O.p 1) rfl rfl ?_;clear O;intro w O;refine⟨.inl rfl,?_⟩;refine ah (by kernel_rfl) ?_ _;replace I:=I.kp [4,5,6] rfl
     first
      | exact⟨b5,b6,x,y,I,((((((O.p 3).p 3).p 5).p 5).p 4).p 5).de [_,_,_,_,_,_],(by exact hx),(by exact hy)⟩
   ·refine eN I rfl rfl dN O ?_;clear I a O;intro b5 w O;intro a I;refine⟨.inr fun _=>(by exact⟨[_,_,_],O⟩),?_⟩;refine np 3 5 (by kernel_rfl) ?_ ?_
    ·refine eF I rfl rfl jF rfl (cq _ q (hq.sat O) hlq) ?_;clear I a;rintro e w ⟨y,rfl,hy,hT⟩;replace O:Sat _ _ (_::_::_):=O.ag hT;clear hT;refine⟨_,rfl,?_⟩;intro a I;refine⟨.inl rfl,?_⟩;refine aG 5 (by kernel_rfl) ?_;refine eN I rfl rfl dN O ?_;clear I a O;intro b6 w O;intro a I;refine⟨.inr fun _=>(by exact⟨[_,_,_,_,_,_],O⟩),?_⟩;refine aG 6 (by kernel_rfl) ?_;refine dr (vs:=[_,_]) (cs':=[_,_]) I rfl rfl rfl bj (by simp[Value.oneCell']) (O.p 3) rfl rfl ?_;clear O;intro w O;refine⟨.inl rfl,?_⟩;refine aG 7 (by kernel_rfl) ?_;refine dr (vs:=[_,_]) (cs':=[_,_]) I rfl rfl rfl bj (by simp[Value.oneCell']) (O.p 1) rfl rfl ?_;clear O;intro w O;refine⟨.inl rfl,?_⟩;refine ah (by kernel_rfl) ?_ _;replace I:=I.kp [4,5,6] rfl
     first
      | exact⟨b5,b6,x,y,I,((((((O.p 3).p 3).p 5).p 5).p 4).p 5).de [_,_,_,_,_,_],(by exact hx),(by exact hy)⟩
    ·refine eN I rfl rfl dN O ?_;clear I a O;intro b6 w O;intro a I;refine⟨.inr fun _=>(by exact⟨[_,_,_,_],O⟩),?_⟩;refine aG 3 (by kernel_rfl) ?_;refine eF I rfl rfl jF rfl (cq _ q (hq.sat O) hlq) ?_;clear I a;rintro e w ⟨y,rfl,hy,hT⟩;replace O:Sat _ _ (_::_::_):=O.ag hT;clear hT;refine⟨_,rfl,?_⟩;intro a I;refine⟨.inl rfl,?_⟩;refine aG 6 (by kernel_rfl) ?_;refine dr (vs:=[_,_]) (cs':=[_,_]) I rfl rfl rfl bj (by simp[Value.oneCell']) (O.p 3) rfl rfl ?_;clear O;intro w O;refine⟨.inl rfl,?_⟩;refine aG 7 (by kernel_rfl) ?_;refine dr (vs:=[_,_]) (cs':=[_,_]) I rfl rfl rfl bj (by simp[Value.oneCell']) (O.p 3) rfl rfl ?_;clear O;intro w O;refine⟨.inl rfl,?_⟩;refine ah (by kernel_rfl) ?_ _;replace I:=I.kp [4,5,6] rfl
     first
      | exact⟨b5,b6,x,y,I,((((((O.p 3).p 3).p 5).p 5).p 4).p 5).de [_,_,_,_,_,_],(by exact hx),(by exact hy)⟩
   ·refine eN I rfl rfl dN O ?_;clear I a O;intro b6 w O;intro a I;refine⟨.inr fun _=>(by exact⟨[_,_,_],O⟩),?_⟩;refine np 3 4 (by kernel_rfl) ?_ ?_
    ·refine eF I rfl rfl jF rfl (cq _ q (hq.sat O) hlq) ?_;clear I a;rintro e w ⟨y,rfl,hy,hT⟩;replace O:Sat _ _ (_::_::_):=O.ag hT;clear hT;refine⟨_,rfl,?_⟩;intro a I;refine⟨.inl rfl,?_⟩;refine aG 4 (by kernel_rfl) ?_;refine eN I rfl rfl dN O ?_;clear I a O;intro b5 w O;intro a I;refine⟨.inr fun _=>(by exact⟨[_,_,_,_,_,_],O⟩),?_⟩;refine aG 6 (by kernel_rfl) ?_;refine dr (vs:=[_,_]) (cs':=[_,_]) I rfl rfl rfl bj (by simp[Value.oneCell']) O rfl rfl ?_;clear O;intro w O;refine⟨.inl rfl,?_⟩;refine aG 7 (by kernel_rfl) ?_;refine dr (vs:=[_,_]) (cs':=[_,_]) I rfl rfl rfl bj (by simp[Value.oneCell']) (O.p 3) rfl rfl ?_;clear O;intro w O;refine⟨.inl rfl,?_⟩;refine ah (by kernel_rfl) ?_ _;replace I:=I.kp [4,5,6] rfl
     first
      | exact⟨b5,b6,x,y,I,((((((O.p 3).p 3).p 5).p 5).p 4).p 5).de [_,_,_,_,_,_],(by exact hx),(by exact hy)⟩
    ·refine eN I rfl rfl dN O ?_;clear I a O;intro b5 w O;intro a I;refine⟨.inr fun _=>(by exact⟨[_,_,_,_],O⟩),?_⟩;refine aG 3 (by kernel_rfl) ?_;refine eF I rfl rfl jF rfl (cq _ q (hq.sat O) hlq) ?_;clear I a;rintro e w ⟨y,rfl,hy,hT⟩;replace O:Sat _ _ (_::_::_):=O.ag hT;clear hT;refine⟨_,rfl,?_⟩;intro a I;refine⟨.inl rfl,?_⟩;refine aG 6 (by kernel_rfl) ?_;refine dr (vs:=[_,_]) (cs':=[_,_]) I rfl rfl rfl bj (by simp[Value.oneCell']) (O.p 2) rfl rfl ?_;clear O;intro w O;refine⟨.inl rfl,?_⟩;refine aG 7 (by kernel_rfl) ?_;refine dr (vs:=[_,_]) (cs':=[_,_]) I rfl rfl rfl bj (by simp[Value.oneCell']) (O.p 3) rfl rfl ?_;clear O;intro w O;refine⟨.inl rfl,?_⟩;refine ah (by kernel_rfl) ?_ _;replace I:=I.kp [4,5,6] rfl
     first
      | exact⟨b5,b6,x,y,I,((((((O.p 3).p 3).p 5).p 5).p 4).p 5).de [_,_,_,_,_,_],(by exact hx),(by exact hy)⟩
  ·refine eN I rfl rfl dN O ?_;clear I a O;intro b5 w O;intro a I;refine⟨.inr fun _=>(by exact⟨[_],O⟩),?_⟩;refine np 1 5 (by kernel_rfl) ?_ ?_
   ·refine eF I rfl rfl jF rfl (cq _ p (hp.sat O) hlp) ?_;clear I a;rintro e w ⟨x,rfl,hx,hT⟩;replace O:Sat _ _ (_::_::_):=O.ag hT;clear hT;refine⟨_,rfl,?_⟩;intro a I;refine⟨.inr fun _=>(by exact⟨[_,_,_],O⟩),?_⟩;refine np 3 5 (by kernel_rfl) ?_ ?_
    ·refine eF I rfl rfl jF rfl (cq _ q (hq.sat O) hlq) ?_;clear I a;rintro e w ⟨y,rfl,hy,hT⟩;replace O:Sat _ _ (_::_::_):=O.ag hT;clear hT;refine⟨_,rfl,?_⟩;intro a I;refine⟨.inl rfl,?_⟩;refine aG 5 (by kernel_rfl) ?_;refine eN I rfl rfl dN O ?_;clear I a O;intro b6 w O;intro a I;refine⟨.inr fun _=>(by exact⟨[_,_,_,_,_,_],O⟩),?_⟩;refine aG 6 (by kernel_rfl) ?_;refine dr (vs:=[_,_]) (cs':=[_,_]) I rfl rfl rfl bj (by simp[Value.oneCell']) (O.p 5) rfl rfl ?_;clear O;intro w O;refine⟨.inl rfl,?_⟩;refine aG 7 (by kernel_rfl) ?_;refine dr (vs:=[_,_]) (cs':=[_,_]) I rfl rfl rfl bj (by simp[Value.oneCell']) (O.p 1) rfl rfl ?_;clear O;intro w O;refine⟨.inl rfl,?_⟩;refine ah (by kernel_rfl) ?_ _;replace I:=I.kp [4,5,6] rfl
     first
      | exact⟨b5,b6,x,y,I,((((((O.p 3).p 3).p 5).p 5).p 4).p 5).de [_,_,_,_,_,_],(by exact hx),(by exact hy)⟩
    ·refine eN I rfl rfl dN O ?_;clear I a O;intro b6 w O;intro a I;refine⟨.inr fun _=>(by exact⟨[_,_,_,_],O⟩),?_⟩;refine aG 3 (by kernel_rfl) ?_;refine eF I rfl rfl jF rfl (cq _ q (hq.sat O) hlq) ?_;clear I a;rintro e w ⟨y,rfl,hy,hT⟩;replace O:Sat _ _ (_::_::_):=O.ag hT;clear hT;refine⟨_,rfl,?_⟩;intro a I;refine⟨.inl rfl,?_⟩;refine aG 6 (by kernel_rfl) ?_;refine dr (vs:=[_,_]) (cs':=[_,_]) I rfl rfl rfl bj (by simp[Value.oneCell']) (O.p 5) rfl rfl ?_;clear O;intro w O;refine⟨.inl rfl,?_⟩;refine aG 7 (by kernel_rfl) ?_;refine dr (vs:=[_,_]) (cs':=[_,_]) I rfl rfl rfl bj (by simp[Value.oneCell']) (O.p 3) rfl rfl ?_;clear O;intro w O;refine⟨.inl rfl,?_⟩;refine ah (by kernel_rfl) ?_ _;replace I:=I.kp [4,5,6] rfl
     first
      | exact⟨b5,b6,x,y,I,((((((O.p 3).p 3).p 5).p 5).p 4).p 5).de [_,_,_,_,_,_],(by exact hx),(by exact hy)⟩
   ·refine eN I rfl rfl dN O ?_;clear I a O;intro b6 w O;intro a I;refine⟨.inr fun _=>(by exact⟨[_,_],O⟩),?_⟩;refine aG 1 (by kernel_rfl) ?_;refine eF I rfl rfl jF rfl (cq _ p (hp.sat O) hlp) ?_;clear I a;rintro e w ⟨x,rfl,hx,hT⟩;replace O:Sat _ _ (_::_::_):=O.ag hT;clear hT;refine⟨_,rfl,?_⟩;intro a I;refine⟨.inr fun _=>(by exact⟨[_,_,_,_],O⟩),?_⟩;refine aG 3 (by kernel_rfl) ?_;refine eF I rfl rfl jF rfl (cq _ q (hq.sat O) hlq) ?_;clear I a;rintro e w ⟨y,rfl,hy,hT⟩;replace O:Sat _ _ (_::_::_):=O.ag hT;clear hT;refine⟨_,rfl,?_⟩;intro a I;refine⟨.inl rfl,?_⟩;refine aG 6 (by kernel_rfl) ?_;refine dr (vs:=[_,_]) (cs':=[_,_]) I rfl rfl rfl bj (by simp[Value.oneCell']) (O.p 5) rfl rfl ?_;clear O;intro w O;refine⟨.inl rfl,?_⟩;refine aG 7 (by kernel_rfl) ?_
    refine dr (vs:=[_,_]) (cs':=[_,_]) I rfl rfl rfl bj (by simp[Value.oneCell']) (O.p 5) rfl rfl ?_;clear O;intro w O;refine⟨.inl rfl,?_⟩;refine ah (by kernel_rfl) ?_ _;replace I:=I.kp [4,5,6] rfl
    first
     | exact⟨b5,b6,x,y,I,((((((O.p 3).p 3).p 5).p 5).p 4).p 5).de [_,_,_,_,_,_],(by exact hx),(by exact hy)⟩
  ·refine eN I rfl rfl dN O ?_;clear I a O;intro b6 w O;intro a I;refine⟨.inr fun _=>(by exact⟨[_],O⟩),?_⟩;refine np 1 4 (by kernel_rfl) ?_ ?_
   ·refine eF I rfl rfl jF rfl (cq _ p (hp.sat O) hlp) ?_;clear I a;rintro e w ⟨x,rfl,hx,hT⟩;replace O:Sat _ _ (_::_::_):=O.ag hT;clear hT;refine⟨_,rfl,?_⟩;intro a I;refine⟨.inr fun _=>(by exact⟨[_,_,_],O⟩),?_⟩;refine np 3 4 (by kernel_rfl) ?_ ?_
    ·refine eF I rfl rfl jF rfl (cq _ q (hq.sat O) hlq) ?_;clear I a;rintro e w ⟨y,rfl,hy,hT⟩;replace O:Sat _ _ (_::_::_):=O.ag hT;clear hT;refine⟨_,rfl,?_⟩;intro a I;refine⟨.inl rfl,?_⟩;refine aG 4 (by kernel_rfl) ?_;refine eN I rfl rfl dN O ?_;clear I a O;intro b5 w O;intro a I;refine⟨.inr fun _=>(by exact⟨[_,_,_,_,_,_],O⟩),?_⟩;refine aG 6 (by kernel_rfl) ?_;refine dr (vs:=[_,_]) (cs':=[_,_]) I rfl rfl rfl bj (by simp[Value.oneCell']) O rfl rfl ?_;clear O;intro w O;refine⟨.inl rfl,?_⟩;refine aG 7 (by kernel_rfl) ?_;refine dr (vs:=[_,_]) (cs':=[_,_]) I rfl rfl rfl bj (by simp[Value.oneCell']) (O.p 5) rfl rfl ?_;clear O;intro w O;refine⟨.inl rfl,?_⟩;refine ah (by kernel_rfl) ?_ _;replace I:=I.kp [4,5,6] rfl
     first
      | exact⟨b5,b6,x,y,I,((((((O.p 3).p 3).p 5).p 5).p 4).p 5).de [_,_,_,_,_,_],(by exact hx),(by exact hy)⟩
    ·refine eN I rfl rfl dN O ?_;clear I a O;intro b5 w O;intro a I;refine⟨.inr fun _=>(by exact⟨[_,_,_,_],O⟩),?_⟩;refine aG 3 (by kernel_rfl) ?_;refine eF I rfl rfl jF rfl (cq _ q (hq.sat O) hlq) ?_;clear I a;rintro e w ⟨y,rfl,hy,hT⟩;replace O:Sat _ _ (_::_::_):=O.ag hT;clear hT;refine⟨_,rfl,?_⟩;intro a I;refine⟨.inl rfl,?_⟩;refine aG 6 (by kernel_rfl) ?_;refine dr (vs:=[_,_]) (cs':=[_,_]) I rfl rfl rfl bj (by simp[Value.oneCell']) (O.p 2) rfl rfl ?_;clear O;intro w O;refine⟨.inl rfl,?_⟩;refine aG 7 (by kernel_rfl) ?_;refine dr (vs:=[_,_]) (cs':=[_,_]) I rfl rfl rfl bj (by simp[Value.oneCell']) (O.p 5) rfl rfl ?_;clear O;intro w O;refine⟨.inl rfl,?_⟩;refine ah (by kernel_rfl) ?_ _;replace I:=I.kp [4,5,6] rfl
     first
      | exact⟨b5,b6,x,y,I,((((((O.p 3).p 3).p 5).p 5).p 4).p 5).de [_,_,_,_,_,_],(by exact hx),(by exact hy)⟩
   ·refine eN I rfl rfl dN O ?_;clear I a O;intro b5 w O;intro a I;refine⟨.inr fun _=>(by exact⟨[_,_],O⟩),?_⟩;refine aG 1 (by kernel_rfl) ?_;refine eF I rfl rfl jF rfl (cq _ p (hp.sat O) hlp) ?_;clear I a;rintro e w ⟨x,rfl,hx,hT⟩;replace O:Sat _ _ (_::_::_):=O.ag hT;clear hT;refine⟨_,rfl,?_⟩;intro a I;refine⟨.inr fun _=>(by exact⟨[_,_,_,_],O⟩),?_⟩;refine aG 3 (by kernel_rfl) ?_;refine eF I rfl rfl jF rfl (cq _ q (hq.sat O) hlq) ?_;clear I a;rintro e w ⟨y,rfl,hy,hT⟩;replace O:Sat _ _ (_::_::_):=O.ag hT;clear hT;refine⟨_,rfl,?_⟩;intro a I;refine⟨.inl rfl,?_⟩;refine aG 6 (by kernel_rfl) ?_;refine dr (vs:=[_,_]) (cs':=[_,_]) I rfl rfl rfl bj (by simp[Value.oneCell']) (O.p 4) rfl rfl ?_;clear O;intro w O;refine⟨.inl rfl,?_⟩;refine aG 7 (by kernel_rfl) ?_
    refine dr (vs:=[_,_]) (cs':=[_,_]) I rfl rfl rfl bj (by simp[Value.oneCell']) (O.p 5) rfl rfl ?_;clear O;intro w O;refine⟨.inl rfl,?_⟩;refine ah (by kernel_rfl) ?_ _;replace I:=I.kp [4,5,6] rfl
    first
     | exact⟨b5,b6,x,y,I,((((((O.p 3).p 3).p 5).p 5).p 4).p 5).de [_,_,_,_,_,_],(by exact hx),(by exact hy)⟩
 ·intro a w hI;clear O I;obtain⟨b5,b6,x,y,I,O,hx,hy⟩:=hI;have hcx:=i6 p.d;rw[←hx]at hcx;have hcy:=i6 q.d;rw[←hy]at hcy;have hlx:=jG p.d;rw[←hx]at hlx;have hly:=jG q.d;rw[←hy]at hly;have hxv:=hcx.len;have hyv:=hcy.len;obtain⟨xva,xvc,xca,xcc,xd⟩:=x;obtain⟨yva,yvc,yca,ycc,yd⟩:=y;dsimp only at O I hx hy hcx hcy hlx hly hxv hyv;refine rC 7 I ?_;clear I a;intro a I
  refine wp_loop_ghost (fun (mm:Nat) a w=>∃(r:Nat),Ag a 49 [(5,.pointer (some ⟨b5,0,none⟩)),(6,.pointer (some ⟨b6,0,none⟩)),(14,.int .i64 ((r:Nat):Int))]∧Sat W w ([aV b5 (.cells #[.slice xva xd.vec.length xvc,.slice xca xd.ab.length xcc] 63),aV b6 (.cells #[.slice yva yd.vec.length yvc,.slice yca yd.ab.length ycc] 63),cN 3 xva xvc xd.vec,bH 219 xca xcc xd.ab,cN 3 yva yvc yd.vec,bH 219 yca ycc yd.ab])∧(r≤16)∧(cx (((List.range 16).map fun r=>gu (av xd.vec r) (av yd.vec r)).take r)=0)∧mm=16-r) 16 ?_ ?_
  ·replace I:=I.kp [5,6,14] rfl;exact⟨0,I,O,(by omega),(by rfl),by omega⟩
  intro m a w hI;clear O I;obtain⟨r,I,O,hr,he,rfl⟩:=hI;refine rC 2 I ?_;clear I a;refine aM 0 0 (aq rfl rfl) ?_ ?_
  ·intro h15;refine uO 24 ?_;refine u1 0 (aa rfl cy) ?_;refine u1 0 (ld rfl) ?_;refine u1 0 (ak rfl aB) ?_;refine aM 0 0 (aq rfl rfl) ?_ ?_
   ·intro h21;refine uO 4 ?_;refine u1 0 (aa rfl cy) ?_;refine u1 1 (ld rfl) ?_;obtain⟨xva_p,rfl⟩:∃q,xva=some q:=(O.p 2).rd.ao (by omega);obtain⟨v1,hv1⟩:∃zz_,xd.vec[r]?=some zz_:=⟨_,List.getElem?_eq_getElem (by omega)⟩;refine u1 0 (ix rfl rfl aB fS) ?_;refine u1 7 (an rfl dE (gb (O.p 2).rd (bu hv1))) ?_;refine u1 0 (aa rfl cy) ?_;refine u1 0 (ld rfl) ?_;refine u1 0 (ak rfl aB) ?_;refine aM 0 0 (aq rfl rfl) ?_ ?_
    ·intro h31;refine uO 4 ?_;refine u1 0 (aa rfl cy) ?_;refine u1 1 (ld rfl) ?_;obtain⟨yva_p,rfl⟩:∃q,yva=some q:=(O.p 4).rd.ao (by omega);obtain⟨v2,hv2⟩:∃zz_,yd.vec[r]?=some zz_:=⟨_,List.getElem?_eq_getElem (by omega)⟩;refine u1 0 (ix rfl rfl aB fS) ?_;refine u1 7 (an rfl dE (gb (O.p 4).rd (bu hv2))) ?_;refine aM 0 0 (aD rfl rfl) ?_ ?_
     ·intro h39;refine uO 7 ?_;refine uF rfl (gC _ _ _) ?_;rintro e w ⟨rfl,hT⟩;replace O:Sat _ _ _:=O.ag hT;clear hT;refine uO 9 ?_;refine aU ?_;have hg:((List.range 16).map fun r=>gu (av xd.vec r) (av yd.vec r))[r]?=some (gu (av xd.vec r) (av yd.vec r)):=by rw[List.getElem?_map,List.getElem?_range (by omega)];rfl
      have hvx:=dv hv1;have hvy:=dv hv2;have hne:gu (av xd.vec r) (av yd.vec r)≠0:=by rw[hvx,hvy];exact j8 h39
      have hz:=kS hg he hne;refine⟨?_,O.nil⟩;unfold p4 rA;rw[←hx,←hy,cd,hz,if_neg hne,hvx,hvy]
     ·intro h39;refine uO 7 ?_;refine u1 2 (ad rfl rfl) ?_;intro a I;replace I:=I.kp [5,6,14] rfl;have hg:((List.range 16).map fun r=>gu (av xd.vec r) (av yd.vec r))[r]?=some (gu (av xd.vec r) (av yd.vec r)):=by rw[List.getElem?_map,List.getElem?_range (by omega)];rfl
      have hvx:=dv hv1;have hvy:=dv hv2;exact⟨16-(r+1),by omega,r+1,I,O,by omega,kD hg he (by rw[hvx,hvy];exact ew.2 (by omega)),rfl⟩
    ·intro h31;refine uO 9 ?_;refine aM 0 0 (aD rfl rfl) ?_ ?_
     ·intro h39;refine uO 7 ?_;refine uF rfl (gC _ _ _) ?_;rintro e w ⟨rfl,hT⟩;replace O:Sat _ _ _:=O.ag hT;clear hT;refine uO 9 ?_;refine aU ?_;have hg:((List.range 16).map fun r=>gu (av xd.vec r) (av yd.vec r))[r]?=some (gu (av xd.vec r) (av yd.vec r)):=by rw[List.getElem?_map,List.getElem?_range (by omega)];rfl
      have hvx:=dv hv1;have hvy:av yd.vec r=0:=ey (by omega);have hne:gu (av xd.vec r) (av yd.vec r)≠0:=by rw[hvx,hvy];exact j8 h39
      have hz:=kS hg he hne;refine⟨?_,O.nil⟩;unfold p4 rA;rw[←hx,←hy,cd,hz,if_neg hne,hvx,hvy]
     ·intro h39;refine uO 7 ?_;refine u1 2 (ad rfl rfl) ?_;intro a I;replace I:=I.kp [5,6,14] rfl;have hg:((List.range 16).map fun r=>gu (av xd.vec r) (av yd.vec r))[r]?=some (gu (av xd.vec r) (av yd.vec r)):=by rw[List.getElem?_map,List.getElem?_range (by omega)];rfl
      have hvx:=dv hv1;have hvy:av yd.vec r=0:=ey (by omega);exact⟨16-(r+1),by omega,r+1,I,O,by omega,kD hg he (by rw[hvx,hvy];exact ew.2 (by omega)),rfl⟩
   ·intro h21;refine uO 9 ?_;refine u1 0 (aa rfl cy) ?_;refine u1 0 (ld rfl) ?_;refine u1 0 (ak rfl aB) ?_;refine aM 0 0 (aq rfl rfl) ?_ ?_
    ·intro h31;refine uO 4 ?_;refine u1 0 (aa rfl cy) ?_;refine u1 1 (ld rfl) ?_;obtain⟨yva_p,rfl⟩:∃q,yva=some q:=(O.p 4).rd.ao (by omega);obtain⟨v2,hv2⟩:∃zz_,yd.vec[r]?=some zz_:=⟨_,List.getElem?_eq_getElem (by omega)⟩;refine u1 0 (ix rfl rfl aB fS) ?_;refine u1 7 (an rfl dE (gb (O.p 4).rd (bu hv2))) ?_;refine aM 0 0 (aD rfl rfl) ?_ ?_
     ·intro h39;refine uO 7 ?_;refine uF rfl (gC _ _ _) ?_;rintro e w ⟨rfl,hT⟩;replace O:Sat _ _ _:=O.ag hT;clear hT;refine uO 9 ?_;refine aU ?_;have hg:((List.range 16).map fun r=>gu (av xd.vec r) (av yd.vec r))[r]?=some (gu (av xd.vec r) (av yd.vec r)):=by rw[List.getElem?_map,List.getElem?_range (by omega)];rfl
      have hvx:av xd.vec r=0:=ey (by omega);have hvy:=dv hv2;have hne:gu (av xd.vec r) (av yd.vec r)≠0:=by rw[hvx,hvy];exact j8 h39
      have hz:=kS hg he hne;refine⟨?_,O.nil⟩;unfold p4 rA;rw[←hx,←hy,cd,hz,if_neg hne,hvx,hvy]
     ·intro h39;refine uO 7 ?_;refine u1 2 (ad rfl rfl) ?_;intro a I;replace I:=I.kp [5,6,14] rfl;have hg:((List.range 16).map fun r=>gu (av xd.vec r) (av yd.vec r))[r]?=some (gu (av xd.vec r) (av yd.vec r)):=by rw[List.getElem?_map,List.getElem?_range (by omega)];rfl
      have hvx:av xd.vec r=0:=ey (by omega);have hvy:=dv hv2;exact⟨16-(r+1),by omega,r+1,I,O,by omega,kD hg he (by rw[hvx,hvy];exact ew.2 (by omega)),rfl⟩
    ·intro h31;refine uO 9 ?_;refine u1 7 (cQ (aD rfl rfl) (by omega)) ?_;refine u1 2 (ad rfl rfl) ?_;intro a I;replace I:=I.kp [5,6,14] rfl;have hg:((List.range 16).map fun r=>gu (av xd.vec r) (av yd.vec r))[r]?=some (gu (av xd.vec r) (av yd.vec r)):=by rw[List.getElem?_map,List.getElem?_range (by omega)];rfl
     have hvx:av xd.vec r=0:=ey (by omega);have hvy:av yd.vec r=0:=ey (by omega);exact⟨16-(r+1),by omega,r+1,I,O,by omega,kD hg he (by rw[hvx,hvy];exact ew.2 (by omega)),rfl⟩
  ·intro h15;refine uO 11 ?_;refine u1 0 (aa rfl bX) ?_;refine u1 0 (ld rfl) ?_;refine u1 0 (aa rfl bX) ?_;refine u1 0 (ld rfl) ?_;refine uF rfl (ui _ xca xcc xd.ab yca ycc yd.ab (O.p 3).rd (O.p 5).rd (by omega) (by omega)) ?_;rintro e w ⟨rfl,hT⟩;replace O:Sat _ _ _:=O.ag hT;clear hT;refine uO 4 ?_;refine aU ?_;rw[List.take_of_length_le (by simp;omega)]at he;refine⟨?_,O.nil⟩;unfold p4 rA;rw[←hx,←hy,cd,he,if_pos rfl,cx]
   split<;>rename_i hc
   ·rw[hc];rfl
   ·rfl
theorem pn (W:World)(p q:PL)(hp:p.ok W)(hq:q.ok W)(hlp:p.d.ab.length≤10000000000)(hlq:q.d.ab.length≤10000000000):Calls Tryz.prog 354 #[.agg #[.slice p.va p.d.vec.length p.vc,.slice p.ca p.d.ab.length p.cc],.agg #[.slice q.va q.d.vec.length q.vc,.slice q.ca q.d.ab.length q.cc]] W fun e w'=>e=.returned (.bool (cj p.d q.d))∧Sat W w' []:=by
 refine bP Tryz.func354 [0,1] ?_;have O:=Sat.start W;refine uC 2 ?_;refine uB rfl O ?_;clear O;intro b2 w O;refine uB rfl O ?_;clear O;intro b3 w O;refine uO 3 ?_;intro a I;replace I:=I.kp [2,3,4] rfl;refine cf (fun a w=>∃(t1 t2:Nat) (ls1 ls2:List (Loc bn)),Ag a 39 [(4,.bool false),(5,.pointer (some ⟨t1,0,none⟩)),(6,.pointer (some ⟨t2,0,none⟩))]∧Sat W w ([j5 355 t1 ls1,br (ls1.map (Loc.jm 357)),j5 355 t2 ls2,br (ls2.map (Loc.jm 357))])∧(gT ls1 (cO p.d))∧(gT ls2 (cO q.d))) ?_ ?_
 ·refine bg [5] O (by kernel_rfl) ?_;replace O:=O.drew;refine X1 0 [] I rfl (by exact⟨[],O⟩) (fun w hT=>have O:=hT.sat;(ax (cs:=[_,_]) (I.ev rfl) fy bj (by exact (O.p 1).aE (xs:=[_,_]) rfl))) ?_;clear I a;refine cW 3 [] rfl (by exact⟨[],O⟩) (fun w hT=>have O:=hT.sat;(lS (cs:=[_,_]) rfl)) ?_;intro a I;refine np 1 4 (by kernel_rfl) ?_ ?_
  ·refine vv (vss:=[[_,_]]) I rfl rfl rfl fN pA rfl rfl rfl (by simp) rfl O ?_;clear I a O;intro A9 w O;intro a I;refine⟨.inr fun _=>(by exact⟨[_],O⟩),?_⟩;refine np 2 4 (by kernel_rfl) ?_ ?_
   ·refine eF I rfl rfl nD rfl (lO _ _ _ p (by exact O.rd) (hp.sat O) hlp) ?_;clear I a;rintro e w ⟨t1,ls1,rfl,hT1,hT⟩;replace O:Sat _ _ (_::_::_):=O.ag hT;clear hT;refine⟨_,rfl,?_⟩;intro a I;refine⟨.inr fun _=>(by exact⟨[_,_,_],O⟩),?_⟩;refine aG 4 (by kernel_rfl) ?_;refine vv (vss:=[[_,_]]) I rfl rfl rfl fN pA rfl rfl rfl (by simp) rfl O ?_;clear I a O;intro A12 w O;intro a I;refine⟨.inr fun _=>(by exact⟨[_,_,_,_],O⟩),?_⟩;refine aG 5 (by kernel_rfl) ?_;refine eF I rfl rfl nD rfl (lO _ _ _ q (by exact O.rd) (hq.sat O) hlq) ?_;clear I a;rintro e w ⟨t2,ls2,rfl,hT2,hT⟩;replace O:Sat _ _ (_::_::_):=O.ag hT;clear hT;refine⟨_,rfl,?_⟩;intro a I;refine⟨.inl rfl,?_⟩;refine rX [6,7] I ?_;clear I a;intro a I;refine ah (by kernel_rfl) ?_ _;replace I:=I.kp [4,5,6] rfl
    first
     | exact⟨t1,t2,ls1,ls2,I,((((O.p 1).p 1).p 4).p 4).de [_,_,_,_],(by exact hT1),(by exact hT2)⟩
   ·refine vv (vss:=[[_,_]]) I rfl rfl rfl fN pA rfl rfl rfl (by simp) rfl O ?_;clear I a O;intro A12 w O;intro a I;refine⟨.inr fun _=>(by exact⟨[_,_],O⟩),?_⟩;refine aG 2 (by kernel_rfl) ?_;refine eF I rfl rfl nD rfl (lO _ _ _ p (by exact (O.p 1).rd) (hp.sat O) hlp) ?_;clear I a;rintro e w ⟨t1,ls1,rfl,hT1,hT⟩;replace O:Sat _ _ (_::_::_):=O.ag hT;clear hT;refine⟨_,rfl,?_⟩;intro a I;refine⟨.inr fun _=>(by exact⟨[_,_,_,_],O⟩),?_⟩;refine aG 5 (by kernel_rfl) ?_;refine eF I rfl rfl nD rfl (lO _ _ _ q (by exact (O.p 2).rd) (hq.sat O) hlq) ?_;clear I a;rintro e w ⟨t2,ls2,rfl,hT2,hT⟩;replace O:Sat _ _ (_::_::_):=O.ag hT;clear hT;refine⟨_,rfl,?_⟩;intro a I;refine⟨.inl rfl,?_⟩;refine rX [6,7] I ?_;clear I a;intro a I;refine ah (by kernel_rfl) ?_ _;replace I:=I.kp [4,5,6] rfl
    first
     | exact⟨t1,t2,ls1,ls2,I,((((O.p 1).p 1).p 3).p 3).de [_,_,_,_],(by exact hT1),(by exact hT2)⟩
  ·refine vv (vss:=[[_,_]]) I rfl rfl rfl fN pA rfl rfl rfl (by simp) rfl O ?_;clear I a O;intro A12 w O;intro a I;refine⟨.inr fun _=>(by exact⟨[_],O⟩),?_⟩;refine aG 1 (by kernel_rfl) ?_;refine vv (vss:=[[_,_]]) I rfl rfl rfl fN pA rfl rfl rfl (by simp) rfl O ?_;clear I a O;intro A9 w O;intro a I;refine⟨.inr fun _=>(by exact⟨[_,_],O⟩),?_⟩;refine aG 2 (by kernel_rfl) ?_;refine eF I rfl rfl nD rfl (lO _ _ _ p (by exact O.rd) (hp.sat O) hlp) ?_;clear I a;rintro e w ⟨t1,ls1,rfl,hT1,hT⟩;replace O:Sat _ _ (_::_::_):=O.ag hT;clear hT;refine⟨_,rfl,?_⟩;intro a I;refine⟨.inr fun _=>(by exact⟨[_,_,_,_],O⟩),?_⟩;refine aG 5 (by kernel_rfl) ?_;refine eF I rfl rfl nD rfl (lO _ _ _ q (by exact (O.p 3).rd) (hq.sat O) hlq) ?_;clear I a;rintro e w ⟨t2,ls2,rfl,hT2,hT⟩;replace O:Sat _ _ (_::_::_):=O.ag hT;clear hT;refine⟨_,rfl,?_⟩
   intro a I;refine⟨.inl rfl,?_⟩;refine rX [6,7] I ?_;clear I a;intro a I;refine ah (by kernel_rfl) ?_ _;replace I:=I.kp [4,5,6] rfl
   first
    | exact⟨t1,t2,ls1,ls2,I,((((O.p 1).p 1).p 3).p 3).de [_,_,_,_],(by exact hT1),(by exact hT2)⟩
 ·intro a w hI;clear O I;obtain⟨t1,t2,ls1,ls2,I,O,hT1,hT2⟩:=hI;refine rC 7 I ?_;clear I a;intro a I;refine wp_loop_ghost (fun (mm:Nat) a w=>∃(r:Nat),Ag a 39 [(5,.pointer (some ⟨t1,0,none⟩)),(6,.pointer (some ⟨t2,0,none⟩)),(14,.int .i64 ((r:Nat):Int))]∧Sat W w ([j5 355 t1 ls1,br (ls1.map (Loc.jm 357)),j5 355 t2 ls2,br (ls2.map (Loc.jm 357))])∧(r≤16)∧(∀k,k<r→ej (au (cO p.d k)) (au (cO q.d k))=[])∧mm=16-r) 16 ?_ ?_
  ·replace I:=I.kp [5,6,14] rfl;exact⟨0,I,O,(by omega),(by exact fun k hk=>absurd hk (Nat.not_lt_zero k)),by omega⟩
  intro m a w hI;clear O I;obtain⟨r,I,O,hr,hw,rfl⟩:=hI;refine rC 2 I ?_;clear I a;refine aM 0 0 (aq rfl rfl) ?_ ?_
  ·intro h15;obtain⟨lA,lc,hl1⟩:=hT1.get (show r<16 by omega);obtain⟨mA,mc,hl2⟩:=hT2.get (show r<16 by omega);have hrl:=ru hlp r (by omega);have hrm:=ru hlq r (by omega);refine uO 15 ?_;intro a I;refine bg [18] O (by kernel_rfl) ?_;replace O:=O.drew;refine rX [0,1] I ?_;clear I a;refine bA 2 [] rfl (fun w=>(aX rfl)) ?_;refine bA 3 [] rfl (fun w=>(iA rfl rfl lN iY)) ?_;refine cW 4 [] rfl (by exact⟨[],O⟩) (fun w hT=>have O:=hT.sat;(an rfl kZ (gV O hl1))) ?_;refine bA 5 [] rfl (fun w=>(ak rfl bR)) ?_;intro a I;refine K.Gv 6 I pk rfl rfl rfl rfl (by kernel_rfl) (by kernel_rfl) (by kernel_rfl) (fun w=>(db (I.ev rfl) (I.ev rfl))) ?_ ?_
   ·clear I a;intro h23;intro a I;dsimp only at h23;refine rX [7,8,9] I ?_;clear I a;refine bA 10 [] rfl (fun w=>(aX rfl)) ?_;refine bA 11 [] rfl (fun w=>(iA rfl rfl lN iY)) ?_;refine cW 12 [13,14] rfl (by exact⟨[],O⟩) (fun w hT=>have O:=hT.sat;(an rfl kZ (gV O hl1))) ?_;refine bA 15 [] rfl (fun w=>(aX rfl)) ?_;refine bA 16 [] rfl (fun w=>(iA rfl rfl lN iY)) ?_;refine cW 17 [] rfl (by exact⟨[],O⟩) (fun w hT=>have O:=hT.sat;(an rfl kZ (gV (O.p 2) hl2))) ?_;intro a I;refine aG 18 (by kernel_rfl) ?_;refine Fh I rfl (aT I rfl rfl rfl) rfl IS rfl (xx _ lA lc (cO p.d r) mA mc (cO q.d r) (rl (O.p 1) hl1) (rl (O.p 3) hl2) hrl hrm) ?_;clear I a;rintro e w ⟨rfl,hT⟩;replace O:Sat _ _ _:=O.ag hT;clear hT;refine⟨_,rfl,?_⟩;intro a I;refine⟨.inl rfl,?_⟩
    refine K.C7 19 I pk rfl (aT I rfl rfl rfl) rfl rfl (by kernel_rfl) (by kernel_rfl) (by kernel_rfl) (fun w=>(aF (I.ev rfl))) ?_ ?_
    ·clear I a;intro h36;intro a I;simp only[decide_eq_decide,decide_eq_true_eq,decide_eq_false_iff_not,Bool.not_eq_true',Bool.not_eq_false',bne_iff_ne,ne_eq,beq_iff_eq,Bool.not_eq_true,Bool.not_eq_false]at h36;refine rX [20] I ?_;clear I a;intro a I;refine ah (by kernel_rfl) ?_ _;refine rE 13 I ?_;clear I a;refine aU ?_;exact⟨by rw[CY (by omega) h36],O.nil⟩
    ·clear I a;intro h36;intro a I;simp only[decide_eq_decide,decide_eq_true_eq,decide_eq_false_iff_not,Bool.not_eq_true',Bool.not_eq_false',bne_iff_ne,ne_eq,beq_iff_eq,Bool.not_eq_true,Bool.not_eq_false]at h36;refine rX [20] I ?_;clear I a;intro a I;refine ah (by kernel_rfl) ?_ _;refine rE 6 I ?_;clear I a;refine u1 2 (ad rfl rfl) ?_;intro a I;replace I:=I.kp [5,6,14] rfl;refine⟨16-(r+1),by omega,r+1,I,O,by omega,fun k hk=>?_,rfl⟩;rcases Nat.lt_or_ge k r with hkr | hkr
     ·exact hw k hkr
     ·obtain rfl:k=r:=by omega
      exact h36
   ·clear I a;intro h23;intro a I;dsimp only at h23;refine rX [7,8,9,10,11,12,13,14,15,16,17,18,19,20] I ?_;clear I a;intro a I;refine ah (by kernel_rfl) ?_ _;refine rE 6 I ?_;clear I a;refine u1 2 (ad rfl rfl) ?_;intro a I;replace I:=I.kp [5,6,14] rfl;refine⟨16-(r+1),by omega,r+1,I,O,by omega,fun k hk=>?_,rfl⟩;rcases Nat.lt_or_ge k r with hkr | hkr
    ·exact hw k hkr
    ·obtain rfl:k=r:=by omega
     exact zL _ (by omega)
  ·intro h15;refine uO 15 ?_;refine aU ?_;exact⟨by rw[Bk fun k hk=>hw k (by omega)],O.nil⟩
theorem AT (W:World)(p q:PL)(hp:p.ok W)(hq:q.ok W)(hlp:p.d.ab.length≤10000000000)(hlq:q.d.ab.length≤10000000000):Calls Tryz.prog 390 #[.agg #[.slice p.va p.d.vec.length p.vc,.slice p.ca p.d.ab.length p.cc],.agg #[.slice q.va q.d.vec.length q.vc,.slice q.ca q.d.ab.length q.cc],.func (.func 388) #[] #[]] W fun e w'=>∃z:PL,e=.returned (.agg #[.slice z.va z.d.vec.length z.vc,.slice z.ca z.d.ab.length z.cc])∧z.d=j0 p.d q.d∧Sat W w' [cN 3 z.va z.vc z.d.vec,bH 219 z.ca z.cc z.d.ab]:=by
 refine bP Tryz.func390 [0,1,2] ?_;have O:=Sat.start W;refine uC 2 ?_;refine uB rfl O ?_;clear O;intro b3 w O;refine uB rfl O ?_;clear O;intro b4 w O;refine uN dN O ?_;clear O;intro b6 w O;refine uO 2 ?_;intro a I;replace I:=I.kp [2,3,4,6] rfl;refine cf (fun a w=>∃(t1 t2:Nat) (ls1 ls2:List (Loc bn)),Ag a 38 [(2,.func (.func 388) #[] #[]),(6,.pointer (some ⟨b6,0,none⟩)),(7,.pointer (some ⟨t1,0,none⟩)),(8,.pointer (some ⟨t2,0,none⟩))]∧Sat W w ([j5 355 t1 ls1,br (ls1.map (Loc.jm 357)),j5 355 t2 ls2,br (ls2.map (Loc.jm 357)),aV b6 (.cells #[.slice none 0 0,.slice none 0 0] 63)])∧(gT ls1 (cO p.d))∧(gT ls2 (cO q.d))) ?_ ?_
 ·refine bg [5] O (by kernel_rfl) ?_;replace O:=O.drew;refine X1 0 [] I rfl (by exact⟨[],O⟩) (fun w hT=>have O:=hT.sat;(ax (cs:=[_,_]) (I.ev rfl) fy bj (by exact (O.p 2).aE (xs:=[_,_]) rfl))) ?_;clear I a;refine cW 3 [] rfl (by exact⟨[],O⟩) (fun w hT=>have O:=hT.sat;(lS (cs:=[_,_]) rfl)) ?_;intro a I;refine np 1 4 (by kernel_rfl) ?_ ?_
  ·refine vv (vss:=[[_,_]]) I rfl rfl rfl fN pA rfl rfl rfl (by simp) rfl O ?_;clear I a O;intro A11 w O;intro a I;refine⟨.inr fun _=>(by exact⟨[_],O⟩),?_⟩;refine np 2 4 (by kernel_rfl) ?_ ?_
   ·refine eF I rfl rfl nD rfl (lO _ _ _ p (by exact O.rd) (hp.sat O) hlp) ?_;clear I a;rintro e w ⟨t1,ls1,rfl,hT1,hT⟩;replace O:Sat _ _ (_::_::_):=O.ag hT;clear hT;refine⟨_,rfl,?_⟩;intro a I;refine⟨.inr fun _=>(by exact⟨[_,_,_],O⟩),?_⟩;refine aG 4 (by kernel_rfl) ?_;refine vv (vss:=[[_,_]]) I rfl rfl rfl fN pA rfl rfl rfl (by simp) rfl O ?_;clear I a O;intro A14 w O;intro a I;refine⟨.inr fun _=>(by exact⟨[_,_,_,_],O⟩),?_⟩;refine aG 5 (by kernel_rfl) ?_;refine eF I rfl rfl nD rfl (lO _ _ _ q (by exact O.rd) (hq.sat O) hlq) ?_;clear I a;rintro e w ⟨t2,ls2,rfl,hT2,hT⟩;replace O:Sat _ _ (_::_::_):=O.ag hT;clear hT;refine⟨_,rfl,?_⟩;intro a I;refine⟨.inl rfl,?_⟩;refine rX [6,7] I ?_;clear I a;intro a I;refine ah (by kernel_rfl) ?_ _;replace I:=I.kp [2,6,7,8] rfl
    first
     | exact⟨t1,t2,ls1,ls2,I,(((((O.p 6).p 2).p 2).p 5).p 5).de [_,_,_,_,_],(by exact hT1),(by exact hT2)⟩
   ·refine vv (vss:=[[_,_]]) I rfl rfl rfl fN pA rfl rfl rfl (by simp) rfl O ?_;clear I a O;intro A14 w O;intro a I;refine⟨.inr fun _=>(by exact⟨[_,_],O⟩),?_⟩;refine aG 2 (by kernel_rfl) ?_;refine eF I rfl rfl nD rfl (lO _ _ _ p (by exact (O.p 1).rd) (hp.sat O) hlp) ?_;clear I a;rintro e w ⟨t1,ls1,rfl,hT1,hT⟩;replace O:Sat _ _ (_::_::_):=O.ag hT;clear hT;refine⟨_,rfl,?_⟩;intro a I;refine⟨.inr fun _=>(by exact⟨[_,_,_,_],O⟩),?_⟩;refine aG 5 (by kernel_rfl) ?_;refine eF I rfl rfl nD rfl (lO _ _ _ q (by exact (O.p 2).rd) (hq.sat O) hlq) ?_;clear I a;rintro e w ⟨t2,ls2,rfl,hT2,hT⟩;replace O:Sat _ _ (_::_::_):=O.ag hT;clear hT;refine⟨_,rfl,?_⟩;intro a I;refine⟨.inl rfl,?_⟩;refine rX [6,7] I ?_;clear I a;intro a I;refine ah (by kernel_rfl) ?_ _;replace I:=I.kp [2,6,7,8] rfl
    first
     | exact⟨t1,t2,ls1,ls2,I,(((((O.p 6).p 2).p 2).p 4).p 4).de [_,_,_,_,_],(by exact hT1),(by exact hT2)⟩
  ·refine vv (vss:=[[_,_]]) I rfl rfl rfl fN pA rfl rfl rfl (by simp) rfl O ?_;clear I a O;intro A14 w O;intro a I;refine⟨.inr fun _=>(by exact⟨[_],O⟩),?_⟩;refine aG 1 (by kernel_rfl) ?_;refine vv (vss:=[[_,_]]) I rfl rfl rfl fN pA rfl rfl rfl (by simp) rfl O ?_;clear I a O;intro A11 w O;intro a I;refine⟨.inr fun _=>(by exact⟨[_,_],O⟩),?_⟩;refine aG 2 (by kernel_rfl) ?_;refine eF I rfl rfl nD rfl (lO _ _ _ p (by exact O.rd) (hp.sat O) hlp) ?_;clear I a;rintro e w ⟨t1,ls1,rfl,hT1,hT⟩;replace O:Sat _ _ (_::_::_):=O.ag hT;clear hT;refine⟨_,rfl,?_⟩;intro a I;refine⟨.inr fun _=>(by exact⟨[_,_,_,_],O⟩),?_⟩;refine aG 5 (by kernel_rfl) ?_;refine eF I rfl rfl nD rfl (lO _ _ _ q (by exact (O.p 3).rd) (hq.sat O) hlq) ?_;clear I a;rintro e w ⟨t2,ls2,rfl,hT2,hT⟩;replace O:Sat _ _ (_::_::_):=O.ag hT;clear hT;refine⟨_,rfl,?_⟩
   intro a I;refine⟨.inl rfl,?_⟩;refine rX [6,7] I ?_;clear I a;intro a I;refine ah (by kernel_rfl) ?_ _;replace I:=I.kp [2,6,7,8] rfl
   first
    | exact⟨t1,t2,ls1,ls2,I,(((((O.p 6).p 2).p 2).p 4).p 4).de [_,_,_,_,_],(by exact hT1),(by exact hT2)⟩
 ·intro a w hI;clear O I;obtain⟨t1,t2,ls1,ls2,I,O,hT1,hT2⟩:=hI;refine rC 7 I ?_;clear I a;intro a I;refine wp_loop_ghost (fun (mm:Nat) a w=>∃(r:Nat) (ls1:List (Loc bn)),Ag a 38 [(2,.func (.func 388) #[] #[]),(6,.pointer (some ⟨b6,0,none⟩)),(7,.pointer (some ⟨t1,0,none⟩)),(8,.pointer (some ⟨t2,0,none⟩)),(16,.int .i64 ((r:Nat):Int))]∧Sat W w ([j5 355 t1 ls1,br (ls1.map (Loc.jm 357)),j5 355 t2 ls2,br (ls2.map (Loc.jm 357)),aV b6 (.cells #[.slice none 0 0,.slice none 0 0] 63)])∧(r≤16)∧(gT ls1 (ov p.d q.d r))∧mm=16-r) 16 ?_ ?_
  ·replace I:=I.kp [2,6,7,8,16] rfl;exact⟨0,ls1,I,O,(by omega),(by exact hT1.congr fun k _=>rfl),by omega⟩
  intro m a w hI;clear O I;obtain⟨r,ls1,I,O,hr,hT1,rfl⟩:=hI;refine rC 2 I ?_;clear I a;refine aM 0 0 (aq rfl rfl) ?_ ?_
  ·intro h17;obtain⟨lA,lc,hl1⟩:=hT1.get (show r<16 by omega);obtain⟨mA,mc,hl2⟩:=hT2.get (show r<16 by omega);have hrl:=ru hlp r (by omega);have hrm:=ru hlq r (by omega);intro a I;rw[Ep]at hl1;refine rO 14 I ?_;clear I a;intro a I;refine bg [13,16] O (by kernel_rfl) ?_;replace O:=O.drew;refine rX [0,1,2,3,4] I ?_;clear I a;refine bA 5 [] rfl (fun w=>(aX rfl)) ?_;refine bA 6 [] rfl (fun w=>(iA rfl rfl lN iY)) ?_;refine cW 7 [8,9] rfl (by exact⟨[],O⟩) (fun w hT=>have O:=hT.sat;(an rfl kZ (gV O hl1))) ?_;refine bA 10 [] rfl (fun w=>(aX rfl)) ?_;refine bA 11 [] rfl (fun w=>(iA rfl rfl lN iY)) ?_;refine cW 12 [] rfl (by exact⟨[],O⟩) (fun w hT=>have O:=hT.sat;(an rfl kZ (gV (O.p 2) hl2))) ?_;refine bA 14 [] rfl (fun w=>(aX rfl)) ?_;intro a I;refine aG 13 (by kernel_rfl) ?_
   refine eV I rfl rfl H3 rfl rfl (sE _ lA lc (cO p.d r) mA mc (cO q.d r) (rl (O.p 1) hl1) (rl (O.p 3) hl2) hrl hrm) ?_;clear I a;rintro e w ⟨A32,c32,rfl,hT⟩;replace O:=O.ar hT;clear hT;refine⟨_,rfl,?_⟩;intro a I;refine⟨.inl rfl,?_⟩;refine P1 15 [] I rfl (fun w=>(fL (I.ev rfl) (I.ev rfl) lN iY (by omega) (by omega))) ?_;clear I a;intro a I;refine aG 16 (by kernel_rfl) ?_;refine eT (i:=r) ⟨A32,c32,ej (aO p.d r) (aO q.d r)⟩ I rfl rfl (by simp) rfl rfl kZ iY (O.p 1) hl1 ?_;clear O;intro w O;refine⟨.inl rfl,?_⟩;refine ah (by kernel_rfl) ?_ _;refine rE 3 I ?_;clear I a;refine u1 2 (ad rfl rfl) ?_;intro a I;replace I:=I.kp [2,6,7,8,16] rfl;have hS2:=((O.p 2).dJ (qc hl1)).drop;have hS3:=sT hl1 (l':=⟨A32,c32,ej (aO p.d r) (aO q.d r)⟩) (((hS2.p 1).p 1).p 2)
   refine⟨16-(r+1),by omega,r+1,_,I,(((((hS3.p 4).p 4).p 4).p 3).p 4).de [_,_,_,_,_],by omega,?_,rfl⟩;exact hT1.set (CC _ _ _).symm fun k hk hne=>CH hne
  ·intro h17;obtain rfl:r=16:=by omega
   refine uO 12 ?_;refine uF rfl (lR _ _ _ t1 ls1 (ov p.d q.d 16) O hT1 (EX hlp hlq)) ?_;rintro e w ⟨z,rfl,hz,hT⟩;replace O:Sat _ _ (_::_::_):=O.ag hT;clear hT;refine uW (vs:=[_,_]) (cs':=[_,_]) rfl rfl bj (O.p 6) ?_;clear O;intro w O;refine uO 3 ?_;intro a I;refine gP I rfl (dj (cs:=[_,_]) I rfl fy bj (by exact O.aE (xs:=[_,_]) rfl)) ?_;exact⟨z,rfl,by rw[hz,AP],oW ((O.p 2).p 2)⟩
theorem qP (W:World)(p q:PL)(hp:p.ok W)(hq:q.ok W)(hlp:p.d.ab.length≤10000000000)(hlq:q.d.ab.length≤10000000000):Calls Tryz.prog 375 #[.agg #[.slice p.va p.d.vec.length p.vc,.slice p.ca p.d.ab.length p.cc],.agg #[.slice q.va q.d.vec.length q.vc,.slice q.ca q.d.ab.length q.cc]] W fun e w'=>∃z:PL,e=.returned (.agg #[.slice z.va z.d.vec.length z.vc,.slice z.ca z.d.ab.length z.cc])∧z.d=j0 p.d q.d∧Sat W w' [cN 3 z.va z.vc z.d.vec,bH 219 z.ca z.cc z.d.ab]:=by
 refine bP Tryz.func375 [0,1] ?_;have O:=Sat.start W;refine uC 2 ?_;refine uB rfl O ?_;clear O;intro b2 w O;refine uB rfl O ?_;clear O;intro b3 w O;refine uN dN O ?_;clear O;intro b4 w O;refine uO 4 ?_;refine u1 0 (lS (cs:=[_,_]) rfl) ?_;refine u1 0 (lS (cs:=[_,_]) rfl) ?_;refine uF rfl (AT _ p q (hp.sat O) (hq.sat O) hlp hlq) ?_;rintro e w ⟨z,rfl,hz,hT⟩;replace O:Sat _ _ (_::_::_):=O.ag hT;clear hT;refine uW (vs:=[_,_]) (cs':=[_,_]) rfl rfl bj (O.p 2) ?_;clear O;intro w O;refine uO 3 ?_;intro a I;refine gP I rfl (dj (cs:=[_,_]) I rfl fy bj (by exact O.aE (xs:=[_,_]) rfl)) ?_;exact⟨z,rfl,hz,oW ((O.p 2).p 2)⟩
theorem EY (W:World)(A:Option Addr)(c:Nat)(xs:List gk)(hR:GA W A c xs)(hl:xs.length≤10000000000):Calls Tryz.prog 276 #[.slice A (xs).length c] W fun e w'=>∃q:PL,e=.returned (.agg #[.slice q.va q.d.vec.length q.vc,.slice q.ca q.d.ab.length q.cc])∧q.d=lX xs∧Sat W w' [cN 3 q.va q.vc q.d.vec,bH 219 q.ca q.cc q.d.ab]:=by
 refine bP Tryz.func276 [0] ?_;have O:=Sat.start W;refine uC 2 ?_;refine uN dN O ?_;clear O;intro b2 w O;refine uO 4 ?_;intro a I;refine o1 0 I (aL I rfl Fc) ?_;clear I a;refine uB rfl O ?_;clear O;intro b7 w O;refine uO 7 ?_;refine u1 4 (ak rfl og) ?_;intro a I;refine wp_loop_ghost (fun (mm:Nat) a w=>∃(i:Nat) (ls:List (Loc bn)),Ag a 37 [(2,.pointer (some ⟨b2,0,none⟩)),(3,.pointer (some ⟨b7,0,none⟩)),(8,.slice A (xs).length c),(9,.int .i64 ((xs.length:Nat):Int)),(10,.int .i64 ((i:Nat):Int))]∧Sat W w ([j5 355 b7 ls,br (ls.map (Loc.jm 357)),aV b2 (.cells #[.slice none 0 0,.slice none 0 0] 63)])∧(i≤xs.length)∧(gT ls (kU (xs.take i)))∧mm=xs.length-i) xs.length ?_ ?_
 ·replace I:=I.kp [2,3,8,9,10] rfl;have hS1:Sat W w [j5 355 b7 (List.replicate 16 wA),br ((List.replicate 16 wA).map (Loc.jm 357)),aV b2 (.cells #[.slice none 0 0,.slice none 0 0] 63)]:=(sg 357 O 16).p 1;exact⟨0,_,I,hS1,(by omega),(by exact so.congr fun r _=>rfl),by omega⟩
 intro m a w hI;clear O I;obtain⟨i,ls,I,O,hi,hT,rfl⟩:=hI;refine rC 2 I ?_;clear I a;refine aM 0 0 (aq rfl rfl) ?_ ?_
 ·intro h11;refine uO 10 ?_;obtain⟨A_p,rfl⟩:∃q,A=some q:=(hR.sat O).ao (by omega);obtain⟨d,hx⟩:∃zz_,xs[i]?=some zz_:=⟨_,List.getElem?_eq_getElem (by omega)⟩;refine u1 0 (ix rfl rfl og gN) ?_;refine u1 0 (ax (cs:=p6 d) rfl nT gN (fun j u e=>bI (hR.sat O) (sU hx j u e))) ?_;refine uN B0 O ?_;clear O;intro b5 w O;refine uW (vs:=[_,_]) (cs':=[_,_]) rfl rfl gN O ?_;clear O;intro w O;refine uO 4 ?_;refine u1 0 (lS (cs:=[_,_]) rfl) ?_;refine uF rfl (sq _ d.rep d.num) ?_;rintro e w ⟨rfl,hT9⟩;replace O:Sat _ _ _:=O.ag hT9;clear hT9;generalize h15:dG d.rep d.num=bb;cases bb
  ·refine uO 7 ?_;refine u1 2 (ad rfl rfl) ?_;intro a I;replace I:=I.kp [2,3,8,9,10] rfl;refine⟨xs.length-(i+1),by omega,i+1,ls,I,O.drop,by omega,?_,rfl⟩;exact hT.congr fun k hk=>by rw[oA hx,if_neg (by rw[h15];simp),List.append_nil]
  ·have hdot:=h15;unfold dG at hdot;simp only[Bool.and_eq_true,decide_eq_true_eq]at hdot;obtain⟨lA,lc,hl'⟩:=hT.get (show d.rep.toNat<16 by omega);have hlen:=tp (xs.take i) d.rep.toNat;rw[List.length_take]at hlen;replace O:Sat W w (eO 357 lA lc (kU (xs.take i) d.rep.toNat)::_):=(O.p 2).dJ (qc hl');refine uO 3 ?_;intro a I;refine jk [18] (lF W [br ((ls.map (Loc.jm 357)).eraseIdx d.rep.toNat),aV b5 (.cells #[.int .i64 d.rep,.int .i64 d.num] 214),j5 355 b7 ls,aV b2 (.cells #[.slice none 0 0,.slice none 0 0] 63)]) (by kernel_rfl) ?_;replace O:=O.drew;refine rX [0] I ?_;clear I a
   refine bA 1 [] rfl (fun w=>(aa rfl bw)) ?_;refine cW 2 [3] rfl (by exact⟨[_],O⟩) (fun w hT=>have O:=hT.sat;(ld rfl)) ?_;refine bA 4 [] rfl (fun w=>(aa rfl bw)) ?_;refine cW 5 [] rfl (by exact⟨[_],O⟩) (fun w hT=>have O:=hT.sat;(ld rfl)) ?_;refine bA 6 [] rfl (fun w=>(aX rfl)) ?_;refine bA 7 [] rfl (fun w=>(iA rfl rfl lN iY)) ?_;refine cW 8 [] rfl (by exact⟨[_],O⟩) (fun w hT=>have O:=hT.sat;(an rfl kZ (gV (O.p 2) hl'))) ?_;refine bA 9 [] rfl (fun w=>(aa rfl bN)) ?_;refine cW 10 [] rfl (by exact⟨[_],O⟩) (fun w hT=>have O:=hT.sat;(ld rfl)) ?_;refine bA 11 [] rfl (fun w=>(aa rfl bN)) ?_;refine cW 12 [] rfl (by exact⟨[_],O⟩) (fun w hT=>have O:=hT.sat;(ld rfl)) ?_;intro a I;refine P1 13 [] I rfl (fun w=>(aL I rfl kG)) ?_;clear I a;refine bA 16 [] rfl (fun w=>(aX rfl)) ?_
   intro a I;refine aG 14 (by kernel_rfl) ?_;refine vv (vss:=[[_,_]]) I rfl rfl rfl bR iC rfl rfl rfl (by simp) rfl O ?_;clear I a O;intro A30 w O;intro a I;refine⟨.inr fun _=>(by exact⟨[_,_],O⟩),?_⟩;refine aG 15 (by kernel_rfl) ?_;refine eA I rfl rfl rfl rfl bR iC rfl (O.p 1) (O.rd.src bR (by simp[Value.oneCell'])) (by omega) (by omega) ?_;clear I a O;intro A31 c31 w hc31 O;intro a I;refine⟨.inr fun _=>(by exact⟨[_,_],O⟩),?_⟩;refine P1 17 [] I rfl (fun w=>(fL (I.ev rfl) (I.ev rfl) lN iY (by omega) (by omega))) ?_;clear I a;intro a I;refine aG 18 (by kernel_rfl) ?_;refine eT (i:=d.rep.toNat) ⟨A31,c31,kU (xs.take i) d.rep.toNat++[(d.num,d.num)]⟩ I rfl rfl (by simp) rfl (by simp[Loc.v]) kZ iY (O.p 4) hl' ?_;clear O;intro w O;refine⟨.inl rfl,?_⟩;refine ah (by kernel_rfl) ?_ _
   refine rE 3 I ?_;clear I a;refine u1 2 (ad rfl rfl) ?_;intro a I;replace I:=I.kp [2,3,8,9,10] rfl;have hS2:=sT hl' (l':=⟨A31,c31,kU (xs.take i) d.rep.toNat++[(d.num,d.num)]⟩) (gL ((O.p 3).p 2) (by simp) (by simp[gY]));refine⟨xs.length-(i+1),by omega,i+1,_,I,(((hS2.p 4).p 1).p 2).de [_,_,_],by omega,?_,rfl⟩;refine hT.set ?_ fun k hk hne=>?_
   ·rw[oA hx,if_pos ⟨h15,by omega⟩]
   ·rw[oA hx,if_neg (fun hh=>hne (by have:=hh.2;omega)),List.append_nil]
 ·intro h11;obtain rfl:i=xs.length:=by omega
  intro a I;rw[List.take_length]at hT;refine rO 12 I ?_;clear I a;refine uF rfl (lR _ _ _ b7 ls (kU xs) O hT (fun r _=>Nat.le_trans (tp xs r) (by omega))) ?_;rintro e w ⟨q,rfl,hq,hT9⟩;replace O:Sat _ _ (_::_::_):=O.ag hT9;clear hT9;refine uW (vs:=[_,_]) (cs':=[_,_]) rfl rfl bj (O.p 4) ?_;clear O;intro w O;refine uO 3 ?_;intro a I;refine gP I rfl (dj (cs:=[_,_]) I rfl fy bj (by exact O.aE (xs:=[_,_]) rfl)) ?_;exact⟨q,rfl,by rw[hq,CF],oW ((O.p 2).p 2)⟩
def dY:List Int→List Int→List Int
 | [],m=>m
 | a::l,[]=>a::dY l []
 | a::l,b::m=>if a≤b then a::dY l (b::m) else b::dY (a::l) m
termination_by l m=>l.length+m.length
theorem iu:∀(k:Nat) (l m:List Int),l.length+m.length≤k→(dY l m).Perm (l++m)
 | _,[],m,_=>by rw[dY];exact .refl _
 | k, a :: l, [], h => by
   cases k with
   | zero=>simp at h
   | succ k=>rw[dY];exact (iu k l [] (by simp at h ⊢;omega)).cons a
 | 0,a::l,b::m,h=>by simp at h
 | k + 1, a :: l, b :: m, h => by
   simp only[List.length_cons]at h;rw[dY]
   split
   ·
    exact (iu k l (b::m) (by simp only[List.length_cons];omega)).cons a
   ·
    exact ((iu k (a::l) m (by simp only[List.length_cons];omega)).cons b).trans (List.perm_middle (l₁:=a::l) (a:=b) (l₂:=m)).symm
theorem oE:∀(k:Nat) (l m:List Int),l.length+m.length≤k→zW l→zW m→zW (dY l m)
 | _,[],m,_,_,hm=>by rw[dY];exact hm
 | k, a :: l, [], h, hl, hm => by
   cases k with
   | zero=>simp at h
   | succ k =>
     rw[dY];refine⟨fun x hx=>?_,oE k l [] (by simp at h ⊢;omega) hl.2 trivial⟩;have:=(iu _ l [] (Nat.le_refl _)).mem_iff.1 hx;exact hl.1 x (by simpa using this)
 | 0,a::l,b::m,h,_,_=>by simp at h
 | k + 1, a :: l, b :: m, h, hl, hm => by
   simp only[List.length_cons]at h;rw[dY]
   split
   ·
    rename_i hab;refine⟨fun x hx=>?_,oE k l (b::m) (by simp only[List.length_cons];omega) hl.2 hm⟩;have:=(iu _ l (b::m) (Nat.le_refl _)).mem_iff.1 hx;rcases List.mem_append.1 this with h | h
    ·
     exact hl.1 x h
    ·
     rcases List.mem_cons.1 h with rfl | h
     ·
      exact hab
     ·
      have:=hm.1 x h;omega
   ·
    rename_i hab;refine⟨fun x hx=>?_,oE k (a::l) m (by simp only[List.length_cons];omega) hl hm.2⟩;have:=(iu _ (a::l) m (Nat.le_refl _)).mem_iff.1 hx;rcases List.mem_append.1 this with h | h
    ·
     rcases List.mem_cons.1 h with rfl | h
     ·
      omega
     ·
      have:=hl.1 x h;omega
    ·
     exact hm.1 x h
theorem HG {us vs:List Int}{i j:Nat}{u:Int}(hu:us[i]?=some u)(h:vs.length≤j∨∃v,vs[j]?=some v∧u≤v):dY (us.drop i) (vs.drop j)=u::dY (us.drop (i+1)) (vs.drop j):=by
 rw[aH hu];rcases h with h | ⟨v,hv,h⟩
 ·
  rw[List.drop_of_length_le h,dY]
 ·
  rw[aH hv,dY,if_pos h]
theorem Ip {us vs:List Int}{i j:Nat}{v:Int}(hv:vs[j]?=some v)(h:us.length≤i∨∃u,us[i]?=some u∧¬u≤v):dY (us.drop i) (vs.drop j)=v::dY (us.drop i) (vs.drop (j+1)):=by
 rw[aH hv];rcases h with h | ⟨u,hu,h⟩
 ·
  rw[List.drop_of_length_le h,dY,dY]
 ·
  rw[aH hu,dY,if_neg h]
theorem Hm {us vs:List Int}{i j:Nat}(hi:us.length≤i)(hj:vs.length≤j):dY (us.drop i) (vs.drop j)=[]:=by rw[List.drop_of_length_le hi,List.drop_of_length_le hj,dY]
structure Hz (us vs:List Int)(i j d:Nat):Prop where
 a1:zW (us.drop i)
 a2:zW (vs.drop j)
 fit:fits (us.drop i) (vs.drop j) d
 Ju:d+us.length+j=vs.length+i
theorem GL {us vs:List Int}{i j d:Nat}{a b:Int}(h:Hz us vs i j d)(ha:us[i]?=some a)(hb:vs[j]?=some b)(hab:a≤b) :
 Hz us vs (i+1) j (d+1)∧fP (us.drop i) (vs.drop j) d=(if d=0 then [a] else [])++fP (us.drop (i+1)) (vs.drop j) (d+1):=by
 obtain⟨h1,h2,h3,h4⟩:=h;rw[aH ha]at h1 h3 ⊢;have h2':=h2;rw[aH hb]at h2' h3 ⊢;refine⟨⟨h1.2,h2,?_,by omega⟩,yS hab⟩;rw[aH hb];refine BO h3 (fun x hx=>?_) h1.1;rcases List.mem_cons.1 hx with rfl | hx
 ·
  exact hab
 ·
  have:=h2'.1 x hx;omega
theorem xy {us vs:List Int}{i j d:Nat}{b:Int}(h:Hz us vs i j d)(hb:vs[j]?=some b)(hab:us.length≤i∨∃a,us[i]?=some a∧¬a≤b) :
 1≤d∧Hz us vs i (j+1) (d-1)∧fP (us.drop i) (vs.drop j) d=(if d=1 then [b] else [])++fP (us.drop i) (vs.drop (j+1)) (d-1):=by
 obtain⟨h1,h2,h3,h4⟩:=h;rw[aH hb]at h2 h3 ⊢
 have hgt:∀x∈us.drop i,b<x:=by
  rcases hab with h | ⟨a,ha,h⟩
  ·
   rw[List.drop_of_length_le h];intro x hx;cases hx
  ·
   rw[aH ha]at h1 ⊢;intro x hx;rcases List.mem_cons.1 hx with rfl | hx
   ·
    omega
   ·
    have:=h1.1 x hx;omega
 obtain⟨hd,hf⟩:=uL h3 hgt h2.1;refine⟨hd,⟨h1,h2.2,hf,by omega⟩,?_⟩;rcases hab with h | ⟨a,ha,h⟩
 ·
  rw[List.drop_of_length_le h,ur]
 ·
  rw[aH ha,vV h]
theorem DW {raw:List bn}{us vs:List Int}(hi:zW us)(ho:zW vs)(pi:us.Perm ((fq raw).map Prod.fst))(po:vs.Perm ((fq raw).map fun r=>r.2+1)):Hz us vs 0 0 0:=by
 have hc:=fun n=>tL (l:=fq raw) (fun r hr=>(n0 r hr).2.1) n
 refine⟨hi,ho,fun n=>?_,by rw[pi.length_eq,po.length_eq];simp⟩;rw[List.drop_zero,List.drop_zero,mi po,mi pi];have:=(hc n).1;omega
def bY (r:Int)(a b:Bool):Bool:=(decide (r=1) && a && b) || (decide (r=2) && a && !b)
def cA (i:Nat):Bool:=decide (i % 2=1)
theorem qe (i:Nat):cA (i+1)=!cA i:=by
 unfold cA
 by_cases h:i % 2=1
 ·
  rw[decide_eq_true h,decide_eq_false (by omega)];rfl
 ·
  rw[decide_eq_false h,decide_eq_true (by omega)];rfl
theorem JL {f:Bool→Bool→Bool}{us vs:List Int}{i j:Nat}{u:Int}{now:Bool}(hu:us[i]?=some u)(h:vs.length≤j∨∃v,vs[j]?=some v∧u<v):comb f (us.drop i) (vs.drop j) (cA i) (cA j) now=(if f (cA (i+1)) (cA j)=now then [] else [u])++comb f (us.drop (i+1)) (vs.drop j) (cA (i+1)) (cA j) (f (cA (i+1)) (cA j)):=by
 rw[aH hu,qe];rcases h with h | ⟨v,hv,h⟩
 ·
  rw[List.drop_of_length_le h,comb]
 ·
  rw[aH hv,comb,if_pos h]
theorem Jx {f:Bool→Bool→Bool}{us vs:List Int}{i j:Nat}{v:Int}{now:Bool}(hv:vs[j]?=some v)(h:us.length≤i∨∃u,us[i]?=some u∧v<u):comb f (us.drop i) (vs.drop j) (cA i) (cA j) now=(if f (cA i) (cA (j+1))=now then [] else [v])++comb f (us.drop i) (vs.drop (j+1)) (cA i) (cA (j+1)) (f (cA i) (cA (j+1))):=by
 rw[aH hv,qe];rcases h with h | ⟨u,hu,h⟩
 ·
  rw[List.drop_of_length_le h,comb]
 ·
  rw[aH hu,comb,if_neg (by omega),if_pos h]
theorem Iq {f:Bool→Bool→Bool}{us vs:List Int}{i j:Nat}{u:Int}{now:Bool}(hu:us[i]?=some u)(hv:vs[j]?=some u):comb f (us.drop i) (vs.drop j) (cA i) (cA j) now=(if f (cA (i+1)) (cA (j+1))=now then [] else [u])++comb f (us.drop (i+1)) (vs.drop (j+1)) (cA (i+1)) (cA (j+1)) (f (cA (i+1)) (cA (j+1))):=by
 rw[aH hu,aH hv,qe,qe,comb,if_neg (by omega),if_neg (by omega)]
theorem G6 {f:Bool→Bool→Bool}{us vs:List Int}{i j:Nat}{x y now:Bool}(hi:us.length≤i)(hj:vs.length≤j):comb f (us.drop i) (vs.drop j) x y now=[]:=by rw[List.drop_of_length_le hi,List.drop_of_length_le hj,comb]
theorem DG {W:World}{A:Option Addr}{n c sz:Nat}{cs:List Value}(h:Rd W sz (.slice A n c) n cs):n≤c:=by
 obtain⟨_,_,h1,h2⟩:=h.form
 injection h1 with _ _ h3
 omega
theorem EL {w:World}{A:Option Addr}{n c m:Nat}{cs:List Value}(h:Rd w 1 (.slice A n c) n cs)(hm:m≤n):Rd w 1 (.slice (ja A c 1 m) (n-m) (c-m)) (n-m) (cs.drop m):=by
 have:=Rd.Gy h m hm;rwa[Nat.mul_one]at this
theorem ss (W:World)(A:Option Addr)(n c:Nat)(xs:List Int)(hX:Rd W 1 (.slice A n c) n (xs.map (Value.int .i64)))(hl:n≤1000000000000)(ih:∀(W:World) (A:Option Addr) (m c:Nat) (xs:List Int),m<n→Rd W 1 (.slice A m c) m (xs.map (Value.int .i64))→Calls Tryz.prog 296 #[.slice A m c] W fun e w'=>∃A' c' ys,e=.returned (.slice A' ys.length c')∧ys.Perm xs∧zW ys∧Sat W w' [cN 3 A' c' ys]):Calls Tryz.prog 296 #[.slice A n c] W fun e w'=>∃A' c' ys,e=.returned (.slice A' ys.length c')∧ys.Perm xs∧zW ys∧Sat W w' [cN 3 A' c' ys]:=by
 refine bP Tryz.func296 [0] ?_;have O:=Sat.start W;have hnc:=DG hX;have hxl:xs.length=n:=by have:=hX.len;simpa using this
 refine uC 9 ?_;refine u1 0 (ak rfl aB) ?_;refine aM 0 0 (aq rfl rfl) ?_ ?_
 ·intro h10;refine uO 5 ?_;intro a I;refine y5 I rfl aB jW O ?_;clear I a O;intro A11 w O;refine uO 1 ?_;intro a I;refine cZ I rfl rfl rfl aB jW rfl O ((hX.sat O).src aB (yD xs)) (by omega) (by omega) ?_;clear I a O;intro A13 c13 w hc13 O;refine uO 5 ?_;refine aU ?_
  have e1:zW xs:=by
   rcases xs with _ | ⟨a,_ | ⟨b,l⟩⟩
   ·
    exact trivial
   ·
    exact⟨fun x hx=>(by cases hx),trivial⟩
   ·
    simp at hxl;omega
  refine⟨_,_,xs,pZ (by omega),.refl _,e1,gL (cu O) (by omega) (by simp)⟩
 ·intro h10;refine uO 9 ?_;refine u1 0 (ak rfl aB) ?_;refine u1 0 (kz rfl rfl (by omega) (by omega) (by omega)) ?_;refine u1 0 (aI (iF rfl rfl aB fS (by omega) (by omega)) (show _=Value.slice (ja A c 1 0) (n / 2) c from rfl)) ?_;refine uF rfl (ih _ _ _ _ (xs.take (n / 2)) (by omega) (by rw[List.map_take];exact wa (hX.sat O) (by omega))) ?_;rintro e w ⟨A1,c1,us,rfl,hp1,ha1,hT⟩;have hl1:=hp1.length_eq;replace O:=O.ar hT;clear hT;refine uO 7 ?_;refine u1 0 (ak rfl aB) ?_;refine u1 0 (kz rfl rfl (by omega) (by omega) (by omega)) ?_;refine u1 0 (aI (wX rfl rfl aB fS (by omega) (by omega)) (show _=Value.slice (ja A c 1 (n / 2)) (n-n / 2) (c-n / 2) from rfl)) ?_;refine uF rfl (ih _ _ _ _ (xs.drop (n / 2)) (by omega) (by rw[List.map_drop];exact EL (hX.sat O) (by omega))) ?_
  rintro e w ⟨A2,c2,vs,rfl,hp2,ha2,hT⟩;have hl2:=hp2.length_eq;replace O:=O.ar hT;clear hT;intro a I;rw[List.length_take]at hl1;rw[List.length_drop]at hl2;refine rO 6 I ?_;clear I a;refine u1 0 (ak rfl aB) ?_;intro a I;refine Jw (m:=0) I rfl rfl rfl aB jW rfl (by omega) (by omega) (by omega) O ?_;clear I a O;intro b28 w O;refine uO 3 ?_;intro a I;replace I:=I.kp [2,3,4,5] rfl;refine rC 8 I ?_;clear I a;intro a I
  refine wp_loop_ghost (fun (mm:Nat) a w=>∃(i j:Nat) (out:List Int) (Ao:Option Addr) (co:Nat),Ag a 79 [(3,.slice A1 (us).length c1),(4,.slice A2 (vs).length c2),(5,.slice Ao (out).length co),(6,.int .i64 ((i:Nat):Int)),(7,.int .i64 ((j:Nat):Int))]∧Sat W w ([cN 3 Ao co out,cN 3 A2 c2 vs,cN 3 A1 c1 us])∧(i≤us.length)∧(j≤vs.length)∧(out.length=i+j)∧(out++dY (us.drop i) (vs.drop j)=dY us vs)∧mm=us.length+vs.length-(i+j)) (us.length+vs.length) ?_ ?_
  ·replace I:=I.kp [3,4,5,6,7] rfl;exact⟨0,0,[],(some ⟨b28,0,none⟩),n,I,O,(by omega),(by omega),(by rfl),(by rfl),by omega⟩
  intro m a w hI;clear O I;obtain⟨i,j,out,Ao,co,I,O,hi,hj,hol,ho,rfl⟩:=hI;refine rC 5 I ?_;clear I a;refine u1 0 (ak rfl aB) ?_;refine aM 0 0 (aq rfl rfl) ?_ ?_
  ·intro h32;refine uO 13 ?_;intro a I;refine cK (fun w'=>Sat _ w' _) (by kernel_rfl) (by kernel_rfl) O.drew ?_;refine rQ 2 I ?_;clear I a;refine bp 0 (fun w O=>(ak rfl aB)) ?_;intro a I;refine K.sr I rfl rfl rfl (fun w O=>(aY (I.ev rfl) (I.ev rfl))) ?_ ?_
   ·clear I a;intro h42;refine uQ 17 ?_;intro a I;refine wpQuiet_nil ?_;clear O;intro w O;refine rE 7 I ?_;clear I a;obtain⟨A1_p,rfl⟩:∃q,A1=some q:=(O.p 2).rd.ao (by omega);obtain⟨u,hu⟩:∃zz_,us[i]?=some zz_:=⟨_,List.getElem?_eq_getElem (by omega)⟩;refine u1 0 (ix rfl rfl aB fS) ?_;refine u1 0 (an rfl dE (gb (O.p 2).rd (bu hu))) ?_;intro a I;refine nw I rfl rfl aB jW rfl rfl rfl (by simp[Value.oneCell']) O ?_;clear I a O;intro A65 w O;intro a I;refine cZ I rfl rfl rfl aB jW rfl (O.p 1) (O.rd.src aB (by simp[Value.oneCell'])) (by omega) (by omega) ?_;clear I a O;intro A66 c66 w hc66 O;refine uO 5 ?_;refine u1 3 (ad rfl rfl) ?_;intro a I;replace I:=I.kp [3,4,5,6,7] rfl;rw[HG hu (.inl (by omega)),List.append_cons]at ho;have el:out.length+1=(out++[u]).length:=by simp
    rw[el]at I;exact⟨us.length+vs.length-(i+1+j),by omega,i+1,j,out++[u],A66,c66,I,nJ (gL (((O.p 3).p 3).p 2) el (by simp)),by omega,by omega,by simp;omega,ho,rfl⟩
   ·clear I a;intro h42;refine uQ 3 ?_;refine bp 0 (fun w O=>(ak rfl aB)) ?_;intro a I;refine K.o0 I (aT I rfl rfl rfl) rfl rfl (fun w O=>(aq (I.ev rfl) (I.ev rfl))) ?_ ?_
    ·clear I a;intro h47;refine uQ 3 ?_;obtain⟨A1_p,rfl⟩:∃q,A1=some q:=(O.p 2).rd.ao (by omega);obtain⟨u,hu⟩:∃zz_,us[i]?=some zz_:=⟨_,List.getElem?_eq_getElem (by omega)⟩;refine bp 0 (fun w O=>(ix rfl rfl aB fS)) ?_;refine bp 2 (fun w O=>(an rfl dE (gb (O.p 2).rd (bu hu)))) ?_;obtain⟨A2_p,rfl⟩:∃q,A2=some q:=(O.p 1).rd.ao (by omega);obtain⟨v,hv⟩:∃zz_,vs[j]?=some zz_:=⟨_,List.getElem?_eq_getElem (by omega)⟩;refine bp 0 (fun w O=>(ix rfl rfl aB fS)) ?_;refine bp 0 (fun w O=>(an rfl dE (gb (O.p 1).rd (bu hv)))) ?_;intro a I;refine K.o0 I (aT I rfl rfl rfl) rfl rfl (fun w O=>(dT (I.ev rfl) (I.ev rfl))) ?_ ?_
     ·clear I a;intro h57;refine uQ 2 ?_;intro a I;refine wpQuiet_nil ?_;clear O;intro w O;refine rE 7 I ?_;clear I a;refine u1 0 (ix rfl rfl aB fS) ?_;refine u1 0 (an rfl dE (gb (O.p 2).rd (bu hu))) ?_;intro a I;refine nw I rfl rfl aB jW rfl rfl rfl (by simp[Value.oneCell']) O ?_;clear I a O;intro A65 w O;intro a I;refine cZ I rfl rfl rfl aB jW rfl (O.p 1) (O.rd.src aB (by simp[Value.oneCell'])) (by omega) (by omega) ?_;clear I a O;intro A66 c66 w hc66 O;refine uO 5 ?_;refine u1 3 (ad rfl rfl) ?_;intro a I;replace I:=I.kp [3,4,5,6,7] rfl;rw[HG hu (.inr ⟨v,hv,h57⟩),List.append_cons]at ho;have el:out.length+1=(out++[u]).length:=by simp
      rw[el]at I;exact⟨us.length+vs.length-(i+1+j),by omega,i+1,j,out++[u],A66,c66,I,nJ (gL (((O.p 3).p 3).p 2) el (by simp)),by omega,by omega,by simp;omega,ho,rfl⟩
     ·clear I a;intro h57;refine uQ 2 ?_;intro a I;refine wpQuiet_nil ?_;clear O;intro w O;refine rE 7 I ?_;clear I a;refine u1 0 (ix rfl rfl aB fS) ?_;refine u1 0 (an rfl dE (gb (O.p 1).rd (bu hv))) ?_;intro a I;refine nw I rfl rfl aB jW rfl rfl rfl (by simp[Value.oneCell']) O ?_;clear I a O;intro A74 w O;intro a I;refine cZ I rfl rfl rfl aB jW rfl (O.p 1) (O.rd.src aB (by simp[Value.oneCell'])) (by omega) (by omega) ?_;clear I a O;intro A75 c75 w hc75 O;refine uO 5 ?_;refine u1 3 (ad rfl rfl) ?_;intro a I;replace I:=I.kp [3,4,5,6,7] rfl;rw[Ip hv (.inr ⟨u,hu,h57⟩),List.append_cons]at ho;have el:out.length+1=(out++[v]).length:=by simp
      rw[el]at I;exact⟨us.length+vs.length-(i+(j+1)),by omega,i,j+1,out++[v],A75,c75,I,nJ (gL (((O.p 3).p 3).p 2) el (by simp)),by omega,by omega,by simp;omega,ho,rfl⟩
    ·clear I a;intro h47;intro a I;contradiction
  ·intro h32;refine uO 3 ?_;refine u1 0 (ak rfl aB) ?_;refine aM 0 0 (aq rfl rfl) ?_ ?_
   ·intro h37;refine uO 8 ?_;intro a I;refine cK (fun w'=>Sat _ w' _) (by kernel_rfl) (by kernel_rfl) O.drew ?_;refine rQ 2 I ?_;clear I a;refine bp 0 (fun w O=>(ak rfl aB)) ?_;intro a I;refine K.sr I rfl rfl rfl (fun w O=>(aY (I.ev rfl) (I.ev rfl))) ?_ ?_
    ·clear I a;intro h42;intro a I;exfalso;omega
    ·clear I a;intro h42;refine uQ 3 ?_;refine bp 0 (fun w O=>(ak rfl aB)) ?_;intro a I;refine K.o0 I (aT I rfl rfl rfl) rfl rfl (fun w O=>(aq (I.ev rfl) (I.ev rfl))) ?_ ?_
     ·clear I a;intro h47;intro a I;contradiction
     ·clear I a;intro h47;refine uQ 12 ?_;intro a I;refine wpQuiet_nil ?_;clear O;intro w O;refine rE 7 I ?_;clear I a;obtain⟨A2_p,rfl⟩:∃q,A2=some q:=(O.p 1).rd.ao (by omega);obtain⟨v,hv⟩:∃zz_,vs[j]?=some zz_:=⟨_,List.getElem?_eq_getElem (by omega)⟩;refine u1 0 (ix rfl rfl aB fS) ?_;refine u1 0 (an rfl dE (gb (O.p 1).rd (bu hv))) ?_;intro a I;refine nw I rfl rfl aB jW rfl rfl rfl (by simp[Value.oneCell']) O ?_;clear I a O;intro A74 w O;intro a I;refine cZ I rfl rfl rfl aB jW rfl (O.p 1) (O.rd.src aB (by simp[Value.oneCell'])) (by omega) (by omega) ?_;clear I a O;intro A75 c75 w hc75 O;refine uO 5 ?_;refine u1 3 (ad rfl rfl) ?_;intro a I;replace I:=I.kp [3,4,5,6,7] rfl;rw[Ip hv (.inl (by omega)),List.append_cons]at ho;have el:out.length+1=(out++[v]).length:=by simp
      rw[el]at I;exact⟨us.length+vs.length-(i+(j+1)),by omega,i,j+1,out++[v],A75,c75,I,nJ (gL (((O.p 3).p 3).p 2) el (by simp)),by omega,by omega,by simp;omega,ho,rfl⟩
   ·intro h37;refine uO 16 ?_;refine aU ?_;rw[Hm (by omega) (by omega),List.append_nil]at ho;subst ho;refine⟨_,_,_,rfl,?_,oE _ us vs (Nat.le_refl _) ha1 ha2,cu O⟩;refine (iu _ us vs (Nat.le_refl _)).trans ((hp1.append hp2).trans ?_);rw[List.take_append_drop]
theorem mQ:∀(k:Nat) (W:World) (A:Option Addr) (n c:Nat) (xs:List Int),n≤k→n≤1000000000000→Rd W 1 (.slice A n c) n (xs.map (Value.int .i64))→Calls Tryz.prog 296 #[.slice A n c] W fun e w'=>∃A' c' ys,e=.returned (.slice A' ys.length c')∧ys.Perm xs∧zW ys∧Sat W w' [cN 3 A' c' ys]
 | 0,W,A,n,c,xs,hk,hl,hX=>ss W A n c xs hX hl fun _ _ _ _ _ h _=>absurd h (by omega)
 | k+1,W,A,n,c,xs,hk,hl,hX=>ss W A n c xs hX hl fun W A m c xs h hX=>mQ k W A m c xs (by omega) (by omega) hX
def Loc.eI (e:Nat)(l:Loc Int):As:=cN e l.a l.c l.xs
abbrev dA {α:Type}(ty t:Nat)(ls:List (Loc α)):As:=aV t (.cells (ls.map Loc.v).toArray ty (0,0))
theorem iV {α:Type}{f:Loc α→As}{ls:List (Loc α)}{i:Nat}{l:Loc α}(h:ls[i]?=some l):(ls.map f)[i]?=some (f l):=by rw[List.getElem?_map,h];rfl
theorem gy {α:Type}{W w:World}{L:List As}{ty t i k:Nat}{ls:List (Loc α)}{l:Loc α}(s:Sat W w (dA ty t ls::L))(h:ls[i]?=some l)(hk:k=i:=by simp):w.cell? ⟨t,k,none⟩=some (.slice l.a l.xs.length l.c):=by
 subst hk;exact s.o5 (by simp[h,Loc.v])
theorem lu {α:Type}{W w:World}{L:List As}{ty t:Nat}{ls:List (Loc α)}(s:Sat W w (dA ty t ls::L)):∀j u,(ls.map Loc.v)[j]?=some u→w.cell? ((⟨t,0,none⟩:Addr).add j)=some u:=fun j u h=>by
 rw[add_lit,Nat.zero_add];exact s.o5 (by simpa using h)
theorem jH {α:Type}{W w:World}{L:List As}{f:Loc α→As}{i:Nat}{ls:List (Loc α)}{l l':Loc α}(h:ls[i]?=some l)(s:Sat W w (f l'::br ((ls.map f).eraseIdx i)::L)):Sat W w (br ((ls.set i l').map f)::L):=by
 rw[List.map_set];exact Sat.vt (by rw[List.length_map];exact (List.getElem?_eq_some_iff.1 h).1) s
theorem kx {W w:World}{L:List As}{e i:Nat}{ls:List (Loc Int)}{l:Loc Int}(s:Sat W w (br (ls.map (Loc.eI e))::L))(h:ls[i]?=some l):kb w l.a l.c l.xs:=(s.dJ (iV h)).rd
theorem kO {α:Type}{W w:World}{L:List As}(f:Loc α→As)(s:Sat W w L)(h0:∀L',Sat W w L'→Sat W w (f ⟨none,0,[]⟩::L')):∀n,Sat W w (br ((List.replicate n (⟨none,0,[]⟩:Loc α)).map f)::L)
 | 0=>s.lg
 | n+1=>(h0 _ (kO f s h0 n)).oL
def dF {α:Type}(ls:List (Loc α))(f:Nat→List α):Prop:=ls.length=16∧∀r l,ls[r]?=some l→l.xs=f r
theorem dF.get {α:Type}{ls:List (Loc α)}{f:Nat→List α}(h:dF ls f){r:Nat}(hr:r<16):∃A c,ls[r]?=some ⟨A,c,f r⟩:=by
 have hl:r<ls.length:=by rw[h.1];exact hr
 have:=h.2 r ls[r] (List.getElem?_eq_getElem hl);refine⟨ls[r].a,ls[r].c,?_⟩;rw[List.getElem?_eq_getElem hl,←this]
theorem dF.set {α:Type}{ls:List (Loc α)}{f g:Nat→List α}(h:dF ls f){r:Nat}{l:Loc α}(hl:l.xs=g r)(hg:∀k,k<16→k≠r→g k=f k):dF (ls.set r l) g:=by
 refine⟨by rw[List.length_set];exact h.1,fun k x hx=>?_⟩;have hk:k<16:=by have:=(List.getElem?_eq_some_iff.1 hx).1;rw[List.length_set,h.1]at this;exact this
 by_cases e:r=k
 ·
  subst e;rw[List.getElem?_set_self (by rw[h.1];exact hk)]at hx;cases hx;exact hl
 ·
  rw[List.getElem?_set_ne e]at hx;rw[h.2 k x hx,hg k hk (Ne.symm e)]
theorem dF.congr {α:Type}{ls:List (Loc α)}{f g:Nat→List α}(h:dF ls f)(hg:∀k,k<16→f k=g k):dF ls g:=⟨h.1,fun r l hl=>by
 have hr:r<16:=by have:=(List.getElem?_eq_some_iff.1 hl).1;rw[h.1]at this;exact this
 rw[h.2 r l hl,hg r hr]⟩
theorem km {α:Type}:dF (List.replicate 16 (⟨none,0,[]⟩:Loc α)) (fun _=>[]):=⟨by simp,fun r l h=>by
 have:=List.mem_of_getElem? h;rw[List.eq_of_mem_replicate this]⟩
section
variable {α:Type} {P:Program} {ops:Array Oper} {a:Act} {n:Nat} {E:Env} {w W:World} {rest:List Oper} {Q:Exit→Act→World→Prop} {L:List As} {t ty:TypeId} {ps:String} {af:Array Edge} {x y:Operand} {ds:List Deferred}
theorem JQ {tb i t':Nat}{p:Addr}{v:Value}{ls:List (Loc α)}{l:Loc α}(l':Loc α)(I:Ag a n E ds)(hx:fH E x=some (.pointer (some p)))(hp:p=⟨tb,i,none⟩)(hy:fH E y=some v)(hv:v=l'.v)(ht:flat P t=true)(h1:(P.info? t).map (·.size)=some 1)
 (s:Sat W w (dA t' tb ls::L)) (hi:ls[i]?=some l) (k:∀w',Sat W w' (dA t' tb (ls.set i l')::L)→wpList P ops Q rest a w'):wpList P ops Q (⟨none,.store t x y,ty,ps,af,none⟩::rest) a w:=by
 subst hp hv;refine mO I hx hy ht h1 rfl s (u:=l.v) (by rw[lW];simp[hi]) fun w' h=>k w' ?_;rw[dA,List.map_set];simpa using h
theorem He {q:Nat}{K:Act→World→Prop}{tb i t':Nat}{p:Addr}{v:Value}{ls:List (Loc α)}{l:Loc α}(l':Loc α)(I:Ag a n E ds)(hi':ops[q]?=some ⟨none,.store t x y,ty,ps,af,none⟩)(hx:fH E x=some (.pointer (some p)))(hp:p=⟨tb,i,none⟩)(hy:fH E y=some v)(hv:v=l'.v)(ht:flat P t=true)(h1:(P.info? t).map (·.size)=some 1)
 (s:Sat W w (dA t' tb ls::L)) (hi:ls[i]?=some l) (k:∀w',Sat W w' (dA t' tb (ls.set i l')::L)→K a w'):wpOp P ops Q q K a w:=by
 subst hp hv;refine eW I hi' hx hy ht h1 rfl s (u:=l.v) (by rw[lW];simp[hi]) fun w' h=>k w' ?_;rw[dA,List.map_set];simpa using h
theorem FA {tb t':Nat}{cs:List Value}{ls:List (Loc α)}(I:Ag a n E ds)(hx:fH E x=some (.pointer (some ⟨tb,0,none⟩)))(hy:fH E y=some (.agg (ls.map Loc.v).toArray))(h1:(P.info? t).map (·.size)=some 16)(hl:ls.length=16)(hc:cs.length=16)
 (s:Sat W w (aV tb (.cells cs.toArray t' (0,0))::L)) (k:∀w',Sat W w' (dA t' tb ls::L)→wpList P ops Q rest a w'):wpList P ops Q (⟨none,.store t x y,ty,ps,af,none⟩::rest) a w:=by
 refine Hq (vs:=ls.map Loc.v) I hx hy (by rw[h1,List.length_map,hl]) (fun v hv=>?_) s (by rw[List.length_map];omega) fun w' h=>k w' ?_
 ·
  obtain⟨l,_,rfl⟩:=List.mem_map.1 hv;rfl
 ·
  have e:cs.take 0++ls.map Loc.v++cs.drop (0+(ls.map Loc.v).length)=ls.map Loc.v:=by
   rw[List.take_zero,List.nil_append,List.drop_of_length_le (by rw[List.length_map];omega),List.append_nil]
  rw[e]at h;exact h
end
def wO (T:List aK)(r k:Nat):List Int:=if k<r then bG (au (gl T k)) else []
theorem CQ (T:List aK)(r:Nat):wO T (r+1) r=bG (au (gl T r)):=if_pos (Nat.lt_succ_self r)
theorem Cq {T:List aK}{r k:Nat}(h:k≠r):wO T (r+1) k=wO T r k:=by
 unfold wO
 by_cases h1:k<r
 ·
  rw[if_pos h1,if_pos (by omega)]
 ·
  rw[if_neg h1,if_neg (by omega)]
def pD (ps:List PL)(i:Nat):aK:=match ps[i]? with | some p=>p.d | none=>⟨[],[]⟩
theorem BL {ps:List PL}{i:Nat}{p:PL}(h:ps[i]?=some p):pD ps i=p.d:=by unfold pD;rw[h]
theorem wM {l:List bn}{q:Nat}{x:bn}(h:l[q]?=some x):(bG l)[2 * q]?=some x.1∧(bG l)[2 * q+1]?=some (x.2+1):=by
 induction l generalizing q with
 | nil=>simp at h
 | cons y l ih =>
   cases q with
   | zero=>simp at h;subst h;exact⟨rfl,rfl⟩
   | succ q =>
     have:=ih (q:=q) (by simpa using h);rw[show 2 * (q+1)=2 * q+1+1 from by omega];exact this
theorem v7 {g:List bn}{x:bn}(h:can (g++[x])):aR (g++[x])=if x.1=1 then (x.2,[]) else ((aR g).1,(aR g).2++[x]):=by
 cases g with
 | nil=>rw[List.nil_append,gf];split<;>rfl
 | cons y t =>
   have h1:=h.2.2.2.1 x (by simp);have h2:=h.1;have h3:=h.2.1;rw[List.cons_append,gf,gf,if_neg (by omega:¬x.1=1)]
   split<;>rfl
def j3 (f:Nat→Int)(r:Nat)(x:Int):List Value:=((List.range r).map f++(x::List.replicate (15-r) 0)).map (Value.int .i64)
theorem zR {f:Nat→Int}{r:Nat}(hr:r<16):((List.range r).map f++List.replicate (16-r) 0).map (Value.int .i64)=j3 f r 0:=by
 unfold j3;rw[show 16-r=(15-r)+1 from by omega,List.replicate_succ]
theorem AJ {f:Nat→Int}{r:Nat}(x y:Int):(j3 f r x).set r (.int .i64 y)=j3 f r y:=by
 unfold j3;rw[show Value.int .i64 y=Value.int .i64 y from rfl,←List.map_set]
 congr 1
 rw[List.set_append_right _ _ (by simp)];simp
theorem AW {f:Nat→Int}{r:Nat}(x:Int):(j3 f r x)[r]?=some (.int .i64 x):=by
 unfold j3;rw[List.getElem?_map,List.getElem?_append_right (by simp)];simp
theorem Ad {f:Nat→Int}{r:Nat}(hr:r<16):j3 f r (f r)=((List.range (r+1)).map f++List.replicate (16-(r+1)) 0).map (Value.int .i64):=by
 unfold j3
 congr 1
 rw[List.range_succ,List.map_append,List.append_assoc,show 16-(r+1)=15-r from by omega]
 rfl
theorem qU {f:Nat→List bn}{B:Nat}(hb:∀r,r<16→(f r).length≤B):∀r,r≤16→((List.range r).flatMap (aP f)).length≤r * B
 | 0,_=>by simp
 | r + 1, h => by
   have h1:=qU hb r (by omega);have h2:=hb r (by omega);have h4:=lP (f r);rw[mx,ql,List.length_append,List.length_map,Nat.add_mul];omega
theorem zI {l:List bn}(h:can l)(q:Nat):can (l.take q):=tg (m:=l.drop q) (by rw[List.take_append_drop];exact h)
theorem jx {α:Type}{W w:World}{L:List As}{ty t i k c:Nat}{A:Option Addr}{xs:List α}{ls:List (Loc α)}(s:Sat W w (dA ty t ls::L))(h:ls[i]?=some ⟨A,c,xs⟩)(hk:k=i:=by simp):w.cell? ⟨t,k,none⟩=some (.slice A xs.length c):=gy s h hk
theorem CB (f:Nat→List bn){r q:Nat}{x:bn}(hx:(f r)[q]?=some x):cY ((f r).take (q+1))=cY ((f r).take q)+(x.2-x.1+1):=by rw[aA hx,qE];simp[cY]
theorem Bc {l:List Int}(h:∀x∈l,0≤x):0≤l.sum∧(l.sum=0→∀x∈l,x=0):=by
 induction l with
 | nil=>simp
 | cons a l ih =>
   obtain⟨h1,h2⟩:=ih fun x hx=>h x (by simp[hx])
   have ha:=h a (by simp);rw[List.sum_cons];refine⟨by omega,fun h0 x hx=>?_⟩;rcases List.mem_cons.1 hx with rfl | hx
   ·
    omega
   ·
    exact h2 (by omega) x hx
theorem rn (p:aK):eo p=true↔∀r,r<16→aO p r=[]:=by
 unfold eo B9;rw[decide_eq_true_eq]
 have hn:∀x∈(List.range 16).map fun r=>cY (aO p r),0≤x:=fun x hx=>by
  obtain⟨r,_,rfl⟩:=List.mem_map.1 hx;exact (iS (bx p r)).1
 constructor
 ·
  intro h r hr;exact (iS (bx p r)).2.1 ((Bc hn).2 h _ (List.mem_map.2 ⟨r,List.mem_range.2 hr,rfl⟩))
 ·
  intro h;have:(List.range 16).map (fun r=>cY (aO p r))=(List.range 16).map fun _=>0:=List.map_congr_left fun r hr=>by rw[h r (List.mem_range.1 hr)];rfl
  rw[this];decide
theorem xR (a b:aK):eo (j0 a b)=cj a b:=by
 rw[Bool.eq_iff_iff,rn,yO,uJ];constructor
 ·
  intro h r hr;rw[←kr a b hr];exact h r hr
 ·
  intro h r hr;rw[kr a b hr];exact h r hr
theorem u6 (rule:Int):bY rule false false=false:=by simp[bY]
theorem AB:bY 2=fun a b=>a && !b:=by funext a b;simp[bY]
theorem zG (W:World)(A:Option Addr)(n c:Nat)(B:Option Addr)(m d:Nat)(raw:List bn)(hX:Rd W 1 (.slice A n c) n ((raw.map Prod.fst).map (Value.int .i64)))(hY:Rd W 1 (.slice B m d) m ((raw.map Prod.snd).map (Value.int .i64)))(hn:n=raw.length)(hm:m=raw.length)(hl:raw.length≤100000000000):Calls Tryz.prog 289 #[.slice A n c,.slice B m d] W fun e w'=>∃A' c',e=.returned (.slice A' (bG (au raw)).length c')∧Sat W w' [cN 3 A' c' (bG (au raw))]:=by
 refine bP Tryz.func289 [0,1] ?_;have O:=Sat.start W;intro a I;subst hn hm;refine rC 18 I ?_;clear I a;intro a I;refine wp_loop_ghost (fun (mm:Nat) a w=>∃(i:Nat) (ins outs:List Int) (Ai Ao:Option Addr) (ci co:Nat),Ag a 98 [(0,.slice A (raw).length c),(1,.slice B (raw).length d),(5,.slice Ai (ins).length ci),(6,.slice Ao (outs).length co),(7,.int .i64 ((i:Nat):Int))]∧Sat W w ([cN 3 Ai ci ins,cN 3 Ao co outs])∧(i≤raw.length)∧(ins=((fq (raw.take i)).map Prod.fst))∧(outs=((fq (raw.take i)).map fun r=>r.2+1))∧mm=raw.length-i) raw.length ?_ ?_
 ·replace I:=I.kp [0,1,5,6,7] rfl;exact⟨0,[],[],none,none,0,0,I,((O.aW 3 1).aW 3 1),(by omega),(by rfl),(by rfl),by omega⟩
 intro m a w hI;clear O I;obtain⟨i,ins,outs,Ai,Ao,ci,co,I,O,hi,h1,h2,rfl⟩:=hI;refine rC 5 I ?_;clear I a;refine u1 0 (ak rfl aB) ?_;refine aM 0 0 (aq rfl rfl) ?_ ?_
 ·intro h17;refine uO 8 ?_;intro a I;refine cK (fun w'=>Sat _ w' _) (by kernel_rfl) (by kernel_rfl) O.drew ?_;refine rQ 2 I ?_;clear I a;obtain⟨A_p,rfl⟩:∃q,A=some q:=(hX.sat O).ao (by omega);obtain⟨r,hr⟩:∃zz_,raw[i]?=some zz_:=⟨_,List.getElem?_eq_getElem (by omega)⟩;have hr1:(raw.map Prod.fst)[i]?=some r.1:=by rw[List.getElem?_map,hr];rfl
  have hr2:(raw.map Prod.snd)[i]?=some r.2:=by rw[List.getElem?_map,hr];rfl
  have hcl:=iN (raw.take i);intro a I;rw[List.length_take]at hcl;have hl1:ins.length≤100000000000:=by rw[h1,List.length_map];omega
  have hl2:outs.length≤100000000000:=by rw[h2,List.length_map];omega
  refine Q1 0 I (fun w O=>(fY (I.ev rfl) (I.ev rfl) aB fS (by omega) (by omega))) ?_;clear I a;refine bp 0 (fun w O=>(an rfl dE (gb (hX.sat O) (bu hr1)))) ?_;refine bp 2 (fun w O=>(tf rfl rfl)) ?_;obtain⟨B_p,rfl⟩:∃q,B=some q:=(hY.sat O).ao (by omega);refine bp 0 (fun w O=>(ix rfl rfl aB fS)) ?_;refine bp 0 (fun w O=>(an rfl dE (gb (hY.sat O) (bu hr2)))) ?_;refine bp 2 (fun w O=>(w6 rfl rfl)) ?_;intro a I;refine wpQuiet_nil ?_;clear O;intro w O;refine rE 5 I ?_;clear I a;refine aM 0 0 (dT rfl rfl) ?_ ?_
  ·intro h32;refine uO 7 ?_;intro a I;refine nw I rfl rfl aB jW rfl rfl rfl (by simp[Value.oneCell']) O ?_;clear I a O;intro A35 w O;intro a I;refine cZ I rfl rfl rfl aB jW rfl (O.p 1) (O.rd.src aB (by simp[Value.oneCell'])) (by omega) (by omega) ?_;clear I a O;intro A36 c36 w hc36 O;refine uO 6 ?_;refine u1 0 (ad rfl rfl) ?_;intro a I;refine nw I rfl rfl aB jW rfl rfl rfl (by simp[Value.oneCell']) O ?_;clear I a O;intro A40 w O;intro a I;refine cZ I rfl rfl rfl aB jW rfl (O.p 3) (O.rd.src aB (by simp[Value.oneCell'])) (by omega) (by omega) ?_;clear I a O;intro A41 c41 w hc41 O;refine uO 6 ?_;refine u1 2 (ad rfl rfl) ?_;intro a I;replace I:=I.kp [0,1,5,6,7] rfl;have hc:gX r=some (max r.1 1,min r.2 1000000000):=by unfold gX;rw[dH,if_pos h32]
   have ec:=nF (a:=raw.take i) hc;rw[←aA hr]at ec;have e1:ins.length+1=(ins++[max r.1 1]).length:=by simp
   have e2:outs.length+1=(outs++[min r.2 1000000000+1]).length:=by simp
   rw[e1,e2]at I;exact⟨raw.length-(i+1),by omega,i+1,ins++[max r.1 1],outs++[min r.2 1000000000+1],_,_,_,_,I,oW (gL ((gL ((O.p 2).p 1) e2 (by simp)).p 1) e1 (by simp)),by omega,by rw[ec,h1];simp,by rw[ec,h2];simp,rfl⟩
  ·intro h32;refine uO 8 ?_;refine u1 2 (ad rfl rfl) ?_;intro a I;replace I:=I.kp [0,1,5,6,7] rfl;have hc:gX r=none:=by unfold gX;rw[dH,if_neg h32]
   have ec:=ny (a:=raw.take i) hc;rw[←aA hr]at ec;exact⟨raw.length-(i+1),by omega,i+1,ins,outs,_,_,_,_,I,O,by omega,by rw[ec,h1],by rw[ec,h2],rfl⟩
 ·intro h17;obtain rfl:i=raw.length:=by omega
  intro a I;rw[List.take_length]at h1 h2;have hcl:=iN raw;have hl1:ins.length≤100000000000:=by rw[h1,List.length_map];omega
  have hl2:outs.length≤100000000000:=by rw[h2,List.length_map];omega
  refine rO 11 I ?_;clear I a;refine uF rfl (mQ _ _ _ _ _ ins (Nat.le_refl _) (by omega) O.rd) ?_;rintro e w ⟨A1,c1,us,rfl,hp1,ha1,hT⟩;replace O:=O.ar hT;clear hT;refine uO 6 ?_;refine uF rfl (mQ _ _ _ _ _ outs (Nat.le_refl _) (by omega) (O.p 2).rd) ?_;rintro e w ⟨A2,c2,vs,rfl,hp2,ha2,hT⟩;replace O:=O.ar hT;clear hT;have hlu:=hp1.length_eq;have hlv:=hp2.length_eq;intro a I;rw[h1]at hp1;rw[h2]at hp2;have hw0:=DW ha1 ha2 hp1 hp2;refine rO 3 I ?_;clear I a;intro a I;replace I:=I.kp [5,6] rfl;refine rC 18 I ?_;clear I a;intro a I
  refine wp_loop_ghost (fun (mm:Nat) a w=>∃(i j d:Nat) (out:List Int) (Ao:Option Addr) (co:Nat),Ag a 98 [(5,.slice A1 (us).length c1),(6,.slice A2 (vs).length c2),(10,.slice Ao (out).length co),(11,.int .i64 ((d:Nat):Int)),(12,.int .i64 ((j:Nat):Int)),(13,.int .i64 ((i:Nat):Int))]∧Sat W w ([cN 3 Ao co out,cN 3 A2 c2 vs,cN 3 A1 c1 us])∧(i≤us.length)∧(j≤vs.length)∧(out.length≤i+j)∧(Hz us vs i j d)∧(out++fP (us.drop i) (vs.drop j) d=bG (au raw))∧mm=us.length+vs.length-(i+j)) (us.length+vs.length) ?_ ?_
  ·replace I:=I.kp [5,6,10,11,12,13] rfl;exact⟨0,0,0,[],none,0,I,nJ (O.aW 3 1),(by omega),(by omega),(by simp),(by exact hw0),(by exact Eb ha1 ha2 hp1 hp2),by omega⟩
  intro m a w hI;clear O I;obtain⟨i,j,d,out,Ao,co,I,O,hi,hj,hol,hw,ho,rfl⟩:=hI;refine rC 5 I ?_;clear I a;refine u1 0 (ak rfl aB) ?_;refine aM 0 0 (aq rfl rfl) ?_ ?_
  ·intro h49;have hbal:=hw.Ju;obtain⟨b,hv⟩:∃x,vs[j]?=some x:=⟨_,List.getElem?_eq_getElem (by omega)⟩;refine uO 13 ?_;intro a I;refine cK (fun w'=>Sat _ w' _) (by kernel_rfl) (by kernel_rfl) O.drew ?_;refine rQ 2 I ?_;clear I a;refine bp 0 (fun w O=>(ak rfl aB)) ?_;intro a I;refine K.sr I rfl rfl rfl (fun w O=>(aq (I.ev rfl) (I.ev rfl))) ?_ ?_
   ·clear I a;intro h59;refine uQ 3 ?_;obtain⟨A1_p,rfl⟩:∃q,A1=some q:=(O.p 2).rd.ao (by omega);obtain⟨x1,hu⟩:∃zz_,us[i]?=some zz_:=⟨_,List.getElem?_eq_getElem (by omega)⟩;refine bp 0 (fun w O=>(ix rfl rfl aB fS)) ?_;refine bp 2 (fun w O=>(an rfl dE (gb (O.p 2).rd (bu hu)))) ?_;obtain⟨A2_p,rfl⟩:∃q,A2=some q:=(O.p 1).rd.ao (by omega);refine bp 0 (fun w O=>(ix rfl rfl aB fS)) ?_;refine bp 0 (fun w O=>(an rfl dE (gb (O.p 1).rd (bu hv)))) ?_;intro a I;refine K.o0 I (aT I rfl rfl rfl) rfl rfl (fun w O=>(dT (I.ev rfl) (I.ev rfl))) ?_ ?_
    ·clear I a;intro h69;refine uQ 1 ?_;intro a I;refine wpQuiet_nil ?_;clear O;intro w O;refine rE 6 I ?_;clear I a;refine aM 0 0 (aY rfl rfl) ?_ ?_
     ·intro h72;refine uO 7 ?_;refine u1 0 (ix rfl rfl aB fS) ?_;refine u1 0 (an rfl dE (gb (O.p 2).rd (bu hu))) ?_;intro a I;refine nw I rfl rfl aB jW rfl rfl rfl (by simp[Value.oneCell']) O ?_;clear I a O;intro A78 w O;intro a I;refine cZ I rfl rfl rfl aB jW rfl (O.p 1) (O.rd.src aB (by simp[Value.oneCell'])) (by omega) (by omega) ?_;clear I a O;intro A79 c79 w hc79 O;refine uO 6 ?_;refine u1 5 (ad rfl rfl) ?_;refine u1 3 (ad rfl rfl) ?_;intro a I;replace I:=I.kp [5,6,10,11,12,13] rfl;obtain⟨hw2,es⟩:=GL hw hu hv h69;rw[es,if_pos (by omega),←List.append_assoc]at ho;have el:out.length+1=(out++[x1]).length:=by simp
      rw[el]at I;exact⟨us.length+vs.length-(i+1+(j)),by omega,i+1,j,d+1,out++[x1],_,_,I,nJ (gL (((O.p 3).p 3).p 2) el (by simp)),by omega,by omega,by simp;omega,hw2,ho,rfl⟩
     ·intro h72;refine uO 8 ?_;refine u1 5 (ad rfl rfl) ?_;refine u1 3 (ad rfl rfl) ?_;intro a I;replace I:=I.kp [5,6,10,11,12,13] rfl;obtain⟨hw2,es⟩:=GL hw hu hv h69;rw[es,if_neg (by omega),List.nil_append]at ho;exact⟨us.length+vs.length-(i+1+(j)),by omega,i+1,j,d+1,out,_,_,I,O,by omega,by omega,by omega,hw2,ho,rfl⟩
    ·clear I a;intro h69;refine uQ 1 ?_;intro a I;refine wpQuiet_nil ?_;clear O;intro w O;refine rE 5 I ?_;clear I a;refine u1 7 (sb rfl rfl) ?_;refine aM 0 0 (aY rfl rfl) ?_ ?_
     ·intro h87;refine uO 7 ?_;refine u1 0 (ix rfl rfl aB fS) ?_;refine u1 0 (an rfl dE (gb (O.p 1).rd (bu hv))) ?_;intro a I;refine nw I rfl rfl aB jW rfl rfl rfl (by simp[Value.oneCell']) O ?_;clear I a O;intro A93 w O;intro a I;refine cZ I rfl rfl rfl aB jW rfl (O.p 1) (O.rd.src aB (by simp[Value.oneCell'])) (by omega) (by omega) ?_;clear I a O;intro A94 c94 w hc94 O;refine uO 5 ?_;refine u1 3 (ad rfl rfl) ?_;intro a I;replace I:=I.kp [5,6,10,11,12,13] rfl;obtain⟨cu,hw2,es⟩:=xy hw hv (.inr ⟨x1,hu,h69⟩);rw[es,if_pos (by omega),←List.append_assoc]at ho;rw[show (d:Int)-1=((d-1:Nat):Int) from by omega]at I;have el:out.length+1=(out++[b]).length:=by simp
      rw[el]at I;exact⟨us.length+vs.length-(i+(j+1)),by omega,i,j+1,d-1,out++[b],_,_,I,nJ (gL (((O.p 3).p 3).p 2) el (by simp)),by omega,by omega,by simp;omega,hw2,ho,rfl⟩
     ·intro h87;refine uO 7 ?_;refine u1 3 (ad rfl rfl) ?_;intro a I;replace I:=I.kp [5,6,10,11,12,13] rfl;obtain⟨cu,hw2,es⟩:=xy hw hv (.inr ⟨x1,hu,h69⟩);rw[es,if_neg (by omega),List.nil_append]at ho;rw[show (d:Int)-1=((d-1:Nat):Int) from by omega]at I;exact⟨us.length+vs.length-(i+(j+1)),by omega,i,j+1,d-1,out,_,_,I,O,by omega,by omega,by omega,hw2,ho,rfl⟩
   ·clear I a;intro h59;intro a I;contradiction
  ·intro h49;refine uO 3 ?_;refine u1 0 (ak rfl aB) ?_;refine aM 0 0 (aq rfl rfl) ?_ ?_
   ·intro h54;have hbal:=hw.Ju;obtain⟨b,hv⟩:∃x,vs[j]?=some x:=⟨_,List.getElem?_eq_getElem (by omega)⟩;refine uO 8 ?_;intro a I;refine cK (fun w'=>Sat _ w' _) (by kernel_rfl) (by kernel_rfl) O.drew ?_;refine rQ 2 I ?_;clear I a;refine bp 0 (fun w O=>(ak rfl aB)) ?_;intro a I;refine K.sr I rfl rfl rfl (fun w O=>(aq (I.ev rfl) (I.ev rfl))) ?_ ?_
    ·clear I a;intro h59;intro a I;contradiction
    ·clear I a;intro h59;refine uQ 11 ?_;intro a I;refine wpQuiet_nil ?_;clear O;intro w O;refine rE 5 I ?_;clear I a;refine u1 7 (sb rfl rfl) ?_;refine aM 0 0 (aY rfl rfl) ?_ ?_
     ·intro h87;refine uO 7 ?_;obtain⟨A2_p,rfl⟩:∃q,A2=some q:=(O.p 1).rd.ao (by omega);refine u1 0 (ix rfl rfl aB fS) ?_;refine u1 0 (an rfl dE (gb (O.p 1).rd (bu hv))) ?_;intro a I;refine nw I rfl rfl aB jW rfl rfl rfl (by simp[Value.oneCell']) O ?_;clear I a O;intro A93 w O;intro a I;refine cZ I rfl rfl rfl aB jW rfl (O.p 1) (O.rd.src aB (by simp[Value.oneCell'])) (by omega) (by omega) ?_;clear I a O;intro A94 c94 w hc94 O;refine uO 5 ?_;refine u1 3 (ad rfl rfl) ?_;intro a I;replace I:=I.kp [5,6,10,11,12,13] rfl;obtain⟨cu,hw2,es⟩:=xy hw hv (.inl (by omega));rw[es,if_pos (by omega),←List.append_assoc]at ho;rw[show (d:Int)-1=((d-1:Nat):Int) from by omega]at I;have el:out.length+1=(out++[b]).length:=by simp
      rw[el]at I;exact⟨us.length+vs.length-(i+(j+1)),by omega,i,j+1,d-1,out++[b],_,_,I,nJ (gL (((O.p 3).p 3).p 2) el (by simp)),by omega,by omega,by simp;omega,hw2,ho,rfl⟩
     ·intro h87;refine uO 7 ?_;refine u1 3 (ad rfl rfl) ?_;intro a I;replace I:=I.kp [5,6,10,11,12,13] rfl;obtain⟨cu,hw2,es⟩:=xy hw hv (.inl (by omega));rw[es,if_neg (by omega),List.nil_append]at ho;rw[show (d:Int)-1=((d-1:Nat):Int) from by omega]at I;exact⟨us.length+vs.length-(i+(j+1)),by omega,i,j+1,d-1,out,_,_,I,O,by omega,by omega,by omega,hw2,ho,rfl⟩
   ·intro h54;refine uO 15 ?_;intro a I;replace I:=I.kp [4] rfl;refine rC 1 I ?_;clear I a;refine aU ?_;have hbal:=hw.Ju;rw[List.drop_of_length_le (by omega),List.drop_of_length_le (by omega:vs.length≤j),ry,List.append_nil]at ho;rw[←ho];exact⟨_,_,rfl,cu O⟩
theorem AQ (W:World)(A:Option Addr)(c:Nat)(ps:List PL)(hR:AG W A c ps)(hE:∀p∈ps,p.ok W)(hn:ps.length≤1000000000000)(ht:cP (ps.map PL.d)≤100000000000):Calls Tryz.prog 279 #[.slice A (ps).length c] W fun e w'=>∃ls:List (Loc Int),e=.returned (.agg (ls.map Loc.v).toArray)∧dF ls (fun r=>bG (au (gl (ps.map PL.d) r)))∧Sat W w' [br (ls.map (Loc.eI 3))]:=by
 refine bP Tryz.func279 [0] ?_;have O:=Sat.start W;refine uC 2 ?_;refine uN w3 O ?_;clear O;intro b2 w O;refine uO 4 ?_;refine uN F7 O ?_;clear O;intro b3 w O;refine uN F7 O ?_;clear O;intro b4 w O;refine uO 9 ?_;intro a I;refine wp_loop_ghost (fun (mm:Nat) a w=>∃(i:Nat) (l1 l2:List (Loc Int)),Ag a 116 [(0,.slice A (ps).length c),(2,.pointer (some ⟨b2,0,none⟩)),(3,.pointer (some ⟨b3,0,none⟩)),(4,.pointer (some ⟨b4,0,none⟩)),(5,.int .i64 ((i:Nat):Int))]∧Sat W w ([dA 375 b3 l1,br (l1.map (Loc.eI 3)),dA 375 b4 l2,br (l2.map (Loc.eI 3)),dA 377 b2 (List.replicate 16 (⟨none,0,[]⟩:Loc Int))])∧(i≤ps.length)∧(dF l1 (fun r=>(gl ((ps.map PL.d).take i) r).map Prod.fst))∧(dF l2 (fun r=>(gl ((ps.map PL.d).take i) r).map Prod.snd))∧mm=ps.length-i) ps.length ?_ ?_
 ·replace I:=I.kp [0,2,3,4,5] rfl;have hS0:=kO (Loc.eI 3) (kO (Loc.eI 3) O (fun L' s=>s.aW 3 1) 16) (fun L' s=>s.aW 3 1) 16;have hS1:Sat W w [dA 375 b3 (List.replicate 16 (⟨none,0,[]⟩:Loc Int)),br ((List.replicate 16 (⟨none,0,[]⟩:Loc Int)).map (Loc.eI 3)),dA 375 b4 (List.replicate 16 (⟨none,0,[]⟩:Loc Int)),br ((List.replicate 16 (⟨none,0,[]⟩:Loc Int)).map (Loc.eI 3)),dA 377 b2 (List.replicate 16 (⟨none,0,[]⟩:Loc Int))]:=(((((hS0.p 4).p 2).p 3).p 3).p 4);exact⟨0,_,_,I,hS1,(by omega),(by exact km),(by exact km),by omega⟩
 intro m a w hI;clear O I;obtain⟨i,l1,l2,I,O,hi,hT1,hT2,rfl⟩:=hI;refine rC 5 I ?_;clear I a;refine u1 0 (ak rfl fN) ?_;refine aM 0 0 (aq rfl rfl) ?_ ?_
 ·intro h14;refine uO 14 ?_;intro a I;refine wp_loop_ghost (fun (mm:Nat) a w=>∃(j:Nat) (l1 l2:List (Loc Int)),Ag a 116 [(0,.slice A (ps).length c),(2,.pointer (some ⟨b2,0,none⟩)),(3,.pointer (some ⟨b3,0,none⟩)),(4,.pointer (some ⟨b4,0,none⟩)),(5,.int .i64 ((i:Nat):Int)),(6,.int .i64 ((j:Nat):Int))]∧Sat W w ([dA 375 b3 l1,br (l1.map (Loc.eI 3)),dA 375 b4 l2,br (l2.map (Loc.eI 3)),dA 377 b2 (List.replicate 16 (⟨none,0,[]⟩:Loc Int))])∧(j≤16)∧(dF l1 (fun r=>(dt ((ps.map PL.d).take i) (pD ps i) j 0 r).map Prod.fst))∧(dF l2 (fun r=>(dt ((ps.map PL.d).take i) (pD ps i) j 0 r).map Prod.snd))∧(j≤(pD ps i).vec.length)∧mm=16-j) 16 ?_ ?_
  ·replace I:=I.kp [0,2,3,4,5,6] rfl;exact⟨0,_,_,I,O,(by omega),(by exact hT1.congr fun r hr=>by rw[rG]),(by exact hT2.congr fun r hr=>by rw[rG]),(by omega),by omega⟩
  intro m a w hI;clear O I;obtain⟨j,l1,l2,I,O,hj,hT1,hT2,hj2,rfl⟩:=hI;refine rC 6 I ?_;clear I a;obtain⟨A_p,rfl⟩:∃q,A=some q:=(hR.sat O).ao (by omega);obtain⟨p,hp⟩:∃zz_,ps[i]?=some zz_:=⟨_,List.getElem?_eq_getElem (by omega)⟩;have hpo:=hE p (List.mem_of_getElem? hp);have hsp:=wS (kQ hp);obtain⟨va,vc,ca,cc,d⟩:=p;have hpv:kb W va vc d.vec:=hpo.vec;have hpc:gK W ca cc d.ab:=hpo.ab;intro a I;dsimp only at hsp;rw[BL hp]at hT1 hT2 hj2;dsimp only at hT1 hT2 hj2;refine o1 0 I (fY (I.ev rfl) (I.ev rfl) fN bj (by omega) (by omega)) ?_;clear I a;refine u1 0 (aw rfl cy) ?_;refine u1 0 (an rfl iy (bI (hR.sat O) (lf hp 0 _ rfl))) ?_;refine u1 0 (ak rfl aB) ?_;refine aM 0 0 (aq rfl rfl) ?_ ?_
  ·intro h24;intro a I;dsimp only at h24;refine rO 2 I ?_;clear I a;refine aM 0 0 (aq rfl rfl) ?_ ?_
   ·intro h27;obtain⟨lA,lc,hl1⟩:=hT1.get (show j<16 by omega);obtain⟨mA,mc,hl2⟩:=hT2.get (show j<16 by omega);have hlen:=ow ((ps.map PL.d).take i) d j 0 j;have hq1:((dt ((ps.map PL.d).take i) d j 0 j).map Prod.fst).length≤100000000000:=by rw[List.length_map];omega
    have hq2:((dt ((ps.map PL.d).take i) d j 0 j).map Prod.snd).length≤100000000000:=by rw[List.length_map];omega
    intro a I;replace O:Sat W w (cN 3 lA lc ((dt ((ps.map PL.d).take i) d j 0 j).map Prod.fst)::_):=(O.p 1).dJ (iV hl1);refine rO 12 I ?_;clear I a;refine u1 0 (iA rfl rfl fz fU) ?_;refine u1 0 (an rfl iy (gy (O.p 2) hl1)) ?_;intro a I;refine nw I rfl rfl aB jW rfl rfl rfl (by simp[Value.oneCell']) O ?_;clear I a O;intro A35 w O;intro a I;refine cZ I rfl rfl rfl aB jW rfl (O.p 1) (O.rd.src aB (by simp[Value.oneCell'])) (by omega) (by omega) ?_;clear I a O;intro A36 c36 w hc36 O;refine u1 0 (iA rfl rfl fz fU) ?_;intro a I;refine JQ (i:=j) ⟨A36,c36,(dt ((ps.map PL.d).take i) d j 0 j).map Prod.fst++[1]⟩ I rfl (by simp) rfl (by simp[Loc.v]) iy fU (O.p 3) hl1 ?_;clear O;intro w O
    replace O:=jH (f:=Loc.eI 3) hl1 (l':=⟨A36,c36,(dt ((ps.map PL.d).take i) d j 0 j).map Prod.fst++[1]⟩) (gL ((O.p 3).p 2) (by simp) (by simp));replace O:Sat W w (cN 3 mA mc ((dt ((ps.map PL.d).take i) d j 0 j).map Prod.snd)::_):=(O.p 4).dJ (iV hl2);refine rO 2 I ?_;clear I a;intro a I;refine bg [13,15] O (by kernel_rfl) ?_;replace O:=O.drew;refine rX [0,1] I ?_;clear I a;refine bA 2 [] rfl (fun w=>(iA rfl rfl fz fU)) ?_;refine cW 3 [4,5] rfl (by exact⟨[],O⟩) (fun w hT=>have O:=hT.sat;(an rfl iy (gy (O.p 5) hl2))) ?_;refine bA 6 [] rfl (fun w=>(ix rfl rfl fN bj)) ?_;refine bA 7 [] rfl (fun w=>(aw rfl cy)) ?_;refine cW 8 [9] rfl (by exact⟨[],O⟩) (fun w hT=>have O:=hT.sat;(an rfl iy (bI (hR.sat O) (lf hp 0 _ rfl)))) ?_
    obtain⟨va_p,rfl⟩:∃q,va=some q:=(hpv.sat O).ao (by omega);obtain⟨v,hv⟩:∃zz_,d.vec[j]?=some zz_:=⟨_,List.getElem?_eq_getElem (by omega)⟩;refine bA 10 [] rfl (fun w=>(ix rfl rfl aB fS)) ?_;refine cW 11 [] rfl (by exact⟨[],O⟩) (fun w hT=>have O:=hT.sat;(an rfl dE (gb (hpv.sat O) (bu hv)))) ?_;intro a I;refine aG 12 (by kernel_rfl) ?_;refine eL I rfl rfl rfl aB jW rfl rfl rfl (by simp[Value.oneCell']) O ?_;clear I a O;intro A50 w O;intro a I;refine⟨.inr fun _=>(by exact⟨[_],O⟩),?_⟩;refine aG 13 (by kernel_rfl) ?_;refine eA I rfl rfl rfl rfl aB jW rfl (O.p 1) (O.rd.src aB (by simp[Value.oneCell'])) (by omega) (by omega) ?_;clear I a O;intro A51 c51 w hc51 O;intro a I;refine⟨.inl rfl,?_⟩;refine P1 14 [] I rfl (fun w=>(fL (I.ev rfl) (I.ev rfl) fz fU (by omega) (by omega))) ?_;clear I a;intro a I
    refine aG 15 (by kernel_rfl) ?_;refine He (i:=j) ⟨A51,c51,(dt ((ps.map PL.d).take i) d j 0 j).map Prod.snd++[v]⟩ I rfl rfl (by simp) rfl (by simp[Loc.v]) iy fU (O.p 6) hl2 ?_;clear O;intro w O;refine⟨.inl rfl,?_⟩;refine ah (by kernel_rfl) ?_ _;refine rE 4 I ?_;clear I a;refine u1 2 (ad rfl rfl) ?_;intro a I;replace I:=I.kp [0,2,3,4,5,6] rfl;have hS2:=jH (f:=Loc.eI 3) hl2 (l':=⟨A51,c51,(dt ((ps.map PL.d).take i) d j 0 j).map Prod.snd++[v]⟩) (gL ((O.p 3).p 2) (by simp) (by simp));have e1:(dt ((ps.map PL.d).take i) d (j+1) 0 j).map Prod.fst=(dt ((ps.map PL.d).take i) d j 0 j).map Prod.fst++[1]:=by rw[(mJ hv).2];simp
    have e2:(dt ((ps.map PL.d).take i) d (j+1) 0 j).map Prod.snd=(dt ((ps.map PL.d).take i) d j 0 j).map Prod.snd++[v]:=by rw[(mJ hv).2];simp
    refine⟨16-(j+1),by omega,j+1,_,_,I,(((((hS2.p 6).p 1).p 2).p 4).p 5).de [_,_,_,_,_],by omega,?_,?_,by rw[BL hp];show j+1≤d.vec.length;omega,rfl⟩
    ·rw[BL hp];exact hT1.set e1.symm fun k hk hne=>by rw[(mJ hv).1 k hne]
    ·rw[BL hp];exact hT2.set e2.symm fun k hk hne=>by rw[(mJ hv).1 k hne]
   ·intro h27;obtain rfl:j=min d.vec.length 16:=by omega
    refine uO 15 ?_;intro a I;refine wp_loop_ghost (fun (mm:Nat) a w=>∃(k:Nat) (l1 l2:List (Loc Int)),Ag a 116 [(0,.slice (some A_p) (ps).length c),(2,.pointer (some ⟨b2,0,none⟩)),(3,.pointer (some ⟨b3,0,none⟩)),(4,.pointer (some ⟨b4,0,none⟩)),(5,.int .i64 ((i:Nat):Int)),(7,.int .i64 ((k:Nat):Int))]∧Sat W w ([dA 375 b3 l1,br (l1.map (Loc.eI 3)),dA 375 b4 l2,br (l2.map (Loc.eI 3)),dA 377 b2 (List.replicate 16 (⟨none,0,[]⟩:Loc Int))])∧(k≤d.ab.length)∧(dF l1 (fun r=>(dt ((ps.map PL.d).take i) d (min d.vec.length 16) k r).map Prod.fst))∧(dF l2 (fun r=>(dt ((ps.map PL.d).take i) d (min d.vec.length 16) k r).map Prod.snd))∧mm=d.ab.length-k) d.ab.length ?_ ?_
    ·replace I:=I.kp [0,2,3,4,5,7] rfl;exact⟨0,_,_,I,O,(by omega),(by exact hT1),(by exact hT2),by omega⟩
    intro m a w hI;clear O I;obtain⟨k,l1,l2,I,O,hk,hT1,hT2,rfl⟩:=hI;refine rC 6 I ?_;clear I a;refine u1 0 (ix rfl rfl fN bj) ?_;refine u1 0 (aw rfl bX) ?_;refine u1 0 (an rfl xJ (bI (hR.sat O) (lf hp 1 _ rfl))) ?_;refine u1 0 (ak rfl dp) ?_;refine aM 0 0 (aq rfl rfl) ?_ ?_
    ·intro h60;intro a I;dsimp only at h60;refine rO 11 I ?_;clear I a;refine u1 0 (ix rfl rfl fN bj) ?_;refine u1 0 (aw rfl bX) ?_;refine u1 1 (an rfl xJ (bI (hR.sat O) (lf hp 1 _ rfl))) ?_;obtain⟨ca_p,rfl⟩:∃q,ca=some q:=(hpc.sat O).ao (by omega);obtain⟨s,hs⟩:∃zz_,d.ab[k]?=some zz_:=⟨_,List.getElem?_eq_getElem (by omega)⟩;refine u1 0 (ix rfl rfl dp cL) ?_;refine u1 0 (ax (cs:=gi s) rfl kg cL (fun j u e=>bI (hpc.sat O) (dB hs j u e))) ?_;refine uN mz O ?_;clear O;intro b8 w O;refine uW (vs:=[_,_,_]) (cs':=[_,_,_]) rfl rfl cL O ?_;clear O;intro w O;refine uO 4 ?_;refine u1 0 (aa rfl bT) ?_;refine u1 0 (ld rfl) ?_;refine aM 0 0 (ek rfl rfl) ?_ ?_
     ·intro h73;refine uO 1 ?_;refine u1 0 (aa rfl bT) ?_;refine u1 0 (ld rfl) ?_;refine aM 0 0 (aq rfl rfl) ?_ ?_
      ·intro h77;obtain⟨lA,lc,hl1⟩:=hT1.get (show s.rep.toNat<16 by omega);obtain⟨mA,mc,hl2⟩:=hT2.get (show s.rep.toNat<16 by omega);have hlen:=ow ((ps.map PL.d).take i) d (min d.vec.length 16) k s.rep.toNat;have hq1:((dt ((ps.map PL.d).take i) d (min d.vec.length 16) k s.rep.toNat).map Prod.fst).length≤100000000000:=by rw[List.length_map];omega
       have hq2:((dt ((ps.map PL.d).take i) d (min d.vec.length 16) k s.rep.toNat).map Prod.snd).length≤100000000000:=by rw[List.length_map];omega
       intro a I;replace O:Sat W w (cN 3 lA lc ((dt ((ps.map PL.d).take i) d (min d.vec.length 16) k s.rep.toNat).map Prod.fst)::_):=(O.p 2).dJ (iV hl1);refine rO 5 I ?_;clear I a;intro a I;refine jk [11] (lF W [br ((l1.map (Loc.eI 3)).eraseIdx s.rep.toNat),aV b8 (.cells #[.int .i64 s.rep,.int .i64 s.lo,.int .i64 s.hi] 219),dA 375 b3 l1,dA 375 b4 l2,br (l2.map (Loc.eI 3)),dA 377 b2 (List.replicate 16 (⟨none,0,[]⟩:Loc Int))]) (by kernel_rfl) ?_;replace O:=O.drew;refine P1 0 [] I rfl (fun w=>(aa (I.ev rfl) bT)) ?_;clear I a
       refine cW 1 [] rfl (by exact⟨[_],O⟩) (fun w hT=>have O:=hT.sat;(ld rfl)) ?_;refine bA 2 [] rfl (fun w=>(aa rfl bT)) ?_;refine cW 3 [] rfl (by exact⟨[_],O⟩) (fun w hT=>have O:=hT.sat;(ld rfl)) ?_;refine bA 4 [] rfl (fun w=>(iA rfl rfl fz fU)) ?_;refine cW 5 [] rfl (by exact⟨[_],O⟩) (fun w hT=>have O:=hT.sat;(an rfl iy (gy (O.p 2) hl1))) ?_;refine bA 6 [] rfl (fun w=>(aa rfl dU)) ?_;refine cW 7 [] rfl (by exact⟨[_],O⟩) (fun w hT=>have O:=hT.sat;(ld rfl)) ?_;intro a I;refine aG 8 (by kernel_rfl) ?_;refine eL I rfl rfl rfl aB jW rfl rfl rfl (by simp[Value.oneCell']) O ?_;clear I a O;intro A87 w O;intro a I;refine⟨.inr fun _=>(by exact⟨[_,_],O⟩),?_⟩;refine aG 9 (by kernel_rfl) ?_;refine eA I rfl rfl rfl rfl aB jW rfl (O.p 1) (O.rd.src aB (by simp[Value.oneCell'])) (by omega) (by omega) ?_
       clear I a O;intro A88 c88 w hc88 O;intro a I;refine⟨.inr fun _=>(by exact⟨[_,_],O⟩),?_⟩;refine P1 10 [] I rfl (fun w=>(fL (I.ev rfl) (I.ev rfl) fz fU (by omega) (by omega))) ?_;clear I a;intro a I;refine aG 11 (by kernel_rfl) ?_;refine He (i:=s.rep.toNat) ⟨A88,c88,(dt ((ps.map PL.d).take i) d (min d.vec.length 16) k s.rep.toNat).map Prod.fst++[s.lo]⟩ I rfl rfl (by simp) rfl (by simp[Loc.v]) iy fU (O.p 4) hl1 ?_;clear O;intro w O;replace O:=jH (f:=Loc.eI 3) hl1 (l':=⟨A88,c88,(dt ((ps.map PL.d).take i) d (min d.vec.length 16) k s.rep.toNat).map Prod.fst++[s.lo]⟩) (gL ((O.p 3).p 2) (by simp) (by simp));replace O:=(O.p 2).drop;replace O:Sat W w (cN 3 mA mc ((dt ((ps.map PL.d).take i) d (min d.vec.length 16) k s.rep.toNat).map Prod.snd)::_):=(O.p 4).dJ (iV hl2);refine⟨.inl rfl,?_⟩
       refine ah (by kernel_rfl) ?_ _;refine rE 1 I ?_;clear I a;intro a I;refine jk [11] (lF W [br ((l2.map (Loc.eI 3)).eraseIdx s.rep.toNat),br ((l1.set s.rep.toNat ⟨A88,c88,(dt ((ps.map PL.d).take i) d (min d.vec.length 16) k s.rep.toNat).map Prod.fst++[s.lo]⟩).map (Loc.eI 3)),dA 375 b3 (l1.set s.rep.toNat ⟨A88,c88,(dt ((ps.map PL.d).take i) d (min d.vec.length 16) k s.rep.toNat).map Prod.fst++[s.lo]⟩),aV b8 (.cells #[.int .i64 s.rep,.int .i64 s.lo,.int .i64 s.hi] 219),dA 375 b4 l2,dA 377 b2 (List.replicate 16 (⟨none,0,[]⟩:Loc Int))]) (by kernel_rfl) ?_;replace O:=O.drew;refine P1 0 [] I rfl (fun w=>(aa (I.ev rfl) bT)) ?_;clear I a
       refine cW 1 [] rfl (by exact⟨[_],O⟩) (fun w hT=>have O:=hT.sat;(ld rfl)) ?_;refine bA 2 [] rfl (fun w=>(aa rfl bT)) ?_;refine cW 3 [] rfl (by exact⟨[_],O⟩) (fun w hT=>have O:=hT.sat;(ld rfl)) ?_;refine bA 4 [] rfl (fun w=>(iA rfl rfl fz fU)) ?_;refine cW 5 [] rfl (by exact⟨[_],O⟩) (fun w hT=>have O:=hT.sat;(an rfl iy (gy (O.p 4) hl2))) ?_;refine bA 6 [] rfl (fun w=>(aa rfl dV)) ?_;refine cW 7 [] rfl (by exact⟨[_],O⟩) (fun w hT=>have O:=hT.sat;(ld rfl)) ?_;intro a I;refine aG 8 (by kernel_rfl) ?_;refine eL I rfl rfl rfl aB jW rfl rfl rfl (by simp[Value.oneCell']) O ?_;clear I a O;intro A98 w O;intro a I;refine⟨.inr fun _=>(by exact⟨[_,_],O⟩),?_⟩;refine aG 9 (by kernel_rfl) ?_;refine eA I rfl rfl rfl rfl aB jW rfl (O.p 1) (O.rd.src aB (by simp[Value.oneCell'])) (by omega) (by omega) ?_
       clear I a O;intro A99 c99 w hc99 O;intro a I;refine⟨.inr fun _=>(by exact⟨[_,_],O⟩),?_⟩;refine P1 10 [] I rfl (fun w=>(fL (I.ev rfl) (I.ev rfl) fz fU (by omega) (by omega))) ?_;clear I a;intro a I;refine aG 11 (by kernel_rfl) ?_;refine He (i:=s.rep.toNat) ⟨A99,c99,(dt ((ps.map PL.d).take i) d (min d.vec.length 16) k s.rep.toNat).map Prod.snd++[s.hi]⟩ I rfl rfl (by simp) rfl (by simp[Loc.v]) iy fU (O.p 6) hl2 ?_;clear O;intro w O;refine⟨.inl rfl,?_⟩;refine ah (by kernel_rfl) ?_ _;refine rE 4 I ?_;clear I a;refine u1 2 (ad rfl rfl) ?_;intro a I;replace I:=I.kp [0,2,3,4,5,7] rfl;have hS2:=jH (f:=Loc.eI 3) hl2 (l':=⟨A99,c99,(dt ((ps.map PL.d).take i) d (min d.vec.length 16) k s.rep.toNat).map Prod.snd++[s.hi]⟩) (gL ((O.p 3).p 2) (by simp) (by simp))
       have hst:=fun q=>fb (T:=((ps.map PL.d).take i)) (j:=min d.vec.length 16) hs q
       refine⟨d.ab.length-(k+1),by omega,k+1,_,_,I,(((((hS2.p 6).p 1).p 2).p 4).p 5).de [_,_,_,_,_],by omega,?_,?_,rfl⟩
       ·refine hT1.set ?_ fun q hq hne=>?_
        ·rw[hst,if_pos (by omega)];simp
        ·rw[hst,if_neg (by omega),List.append_nil]
       ·refine hT2.set ?_ fun q hq hne=>?_
        ·rw[hst,if_pos (by omega)];simp
        ·rw[hst,if_neg (by omega),List.append_nil]
      ·intro h77;refine uO 9 ?_;refine u1 2 (ad rfl rfl) ?_;intro a I;replace I:=I.kp [0,2,3,4,5,7] rfl;have hst:=fun q=>fb (T:=((ps.map PL.d).take i)) (j:=min d.vec.length 16) hs q
       refine⟨d.ab.length-(k+1),by omega,k+1,l1,l2,I,O.drop,by omega,?_,?_,rfl⟩
       ·exact hT1.congr fun q hq=>by rw[hst,if_neg (by omega),List.append_nil]
       ·exact hT2.congr fun q hq=>by rw[hst,if_neg (by omega),List.append_nil]
     ·intro h73;refine uO 13 ?_;refine u1 2 (ad rfl rfl) ?_;intro a I;replace I:=I.kp [0,2,3,4,5,7] rfl;have hst:=fun q=>fb (T:=((ps.map PL.d).take i)) (j:=min d.vec.length 16) hs q
      refine⟨d.ab.length-(k+1),by omega,k+1,l1,l2,I,O.drop,by omega,?_,?_,rfl⟩
      ·exact hT1.congr fun q hq=>by rw[hst,if_neg (by omega),List.append_nil]
      ·exact hT2.congr fun q hq=>by rw[hst,if_neg (by omega),List.append_nil]
    ·intro h60;intro a I;dsimp only at h60;refine rO 11 I ?_;clear I a;refine u1 2 (ad rfl rfl) ?_;intro a I;replace I:=I.kp [0,2,3,4,5] rfl;refine⟨ps.length-(i+1),by omega,i+1,l1,l2,I,O,by omega,?_,?_,rfl⟩
     ·rw[aA (kQ hp)];exact hT1.congr fun r hr=>by rw[←nW hr (show d.ab.length≤k by omega)]
     ·rw[aA (kQ hp)];exact hT2.congr fun r hr=>by rw[←nW hr (show d.ab.length≤k by omega)]
  ·intro h24;intro a I;dsimp only at h24;obtain rfl:j=min d.vec.length 16:=by omega
   refine rO 18 I ?_;clear I a;intro a I;refine wp_loop_ghost (fun (mm:Nat) a w=>∃(k:Nat) (l1 l2:List (Loc Int)),Ag a 116 [(0,.slice (some A_p) (ps).length c),(2,.pointer (some ⟨b2,0,none⟩)),(3,.pointer (some ⟨b3,0,none⟩)),(4,.pointer (some ⟨b4,0,none⟩)),(5,.int .i64 ((i:Nat):Int)),(7,.int .i64 ((k:Nat):Int))]∧Sat W w ([dA 375 b3 l1,br (l1.map (Loc.eI 3)),dA 375 b4 l2,br (l2.map (Loc.eI 3)),dA 377 b2 (List.replicate 16 (⟨none,0,[]⟩:Loc Int))])∧(k≤d.ab.length)∧(dF l1 (fun r=>(dt ((ps.map PL.d).take i) d (min d.vec.length 16) k r).map Prod.fst))∧(dF l2 (fun r=>(dt ((ps.map PL.d).take i) d (min d.vec.length 16) k r).map Prod.snd))∧mm=d.ab.length-k) d.ab.length ?_ ?_
   ·replace I:=I.kp [0,2,3,4,5,7] rfl;exact⟨0,_,_,I,O,(by omega),(by exact hT1),(by exact hT2),by omega⟩
   intro m a w hI;clear O I;obtain⟨k,l1,l2,I,O,hk,hT1,hT2,rfl⟩:=hI;refine rC 6 I ?_;clear I a;refine u1 0 (ix rfl rfl fN bj) ?_;refine u1 0 (aw rfl bX) ?_;refine u1 0 (an rfl xJ (bI (hR.sat O) (lf hp 1 _ rfl))) ?_;refine u1 0 (ak rfl dp) ?_;refine aM 0 0 (aq rfl rfl) ?_ ?_
   ·intro h60;intro a I;dsimp only at h60;refine rO 11 I ?_;clear I a;refine u1 0 (ix rfl rfl fN bj) ?_;refine u1 0 (aw rfl bX) ?_;refine u1 1 (an rfl xJ (bI (hR.sat O) (lf hp 1 _ rfl))) ?_;obtain⟨ca_p,rfl⟩:∃q,ca=some q:=(hpc.sat O).ao (by omega);obtain⟨s,hs⟩:∃zz_,d.ab[k]?=some zz_:=⟨_,List.getElem?_eq_getElem (by omega)⟩;refine u1 0 (ix rfl rfl dp cL) ?_;refine u1 0 (ax (cs:=gi s) rfl kg cL (fun j u e=>bI (hpc.sat O) (dB hs j u e))) ?_;refine uN mz O ?_;clear O;intro b8 w O;refine uW (vs:=[_,_,_]) (cs':=[_,_,_]) rfl rfl cL O ?_;clear O;intro w O;refine uO 4 ?_;refine u1 0 (aa rfl bT) ?_;refine u1 0 (ld rfl) ?_;refine aM 0 0 (ek rfl rfl) ?_ ?_
    ·intro h73;refine uO 1 ?_;refine u1 0 (aa rfl bT) ?_;refine u1 0 (ld rfl) ?_;refine aM 0 0 (aq rfl rfl) ?_ ?_
     ·intro h77;obtain⟨lA,lc,hl1⟩:=hT1.get (show s.rep.toNat<16 by omega);obtain⟨mA,mc,hl2⟩:=hT2.get (show s.rep.toNat<16 by omega);have hlen:=ow ((ps.map PL.d).take i) d (min d.vec.length 16) k s.rep.toNat;have hq1:((dt ((ps.map PL.d).take i) d (min d.vec.length 16) k s.rep.toNat).map Prod.fst).length≤100000000000:=by rw[List.length_map];omega
      have hq2:((dt ((ps.map PL.d).take i) d (min d.vec.length 16) k s.rep.toNat).map Prod.snd).length≤100000000000:=by rw[List.length_map];omega
      intro a I;replace O:Sat W w (cN 3 lA lc ((dt ((ps.map PL.d).take i) d (min d.vec.length 16) k s.rep.toNat).map Prod.fst)::_):=(O.p 2).dJ (iV hl1);refine rO 5 I ?_;clear I a;intro a I;refine jk [11] (lF W [br ((l1.map (Loc.eI 3)).eraseIdx s.rep.toNat),aV b8 (.cells #[.int .i64 s.rep,.int .i64 s.lo,.int .i64 s.hi] 219),dA 375 b3 l1,dA 375 b4 l2,br (l2.map (Loc.eI 3)),dA 377 b2 (List.replicate 16 (⟨none,0,[]⟩:Loc Int))]) (by kernel_rfl) ?_;replace O:=O.drew;refine P1 0 [] I rfl (fun w=>(aa (I.ev rfl) bT)) ?_;clear I a
      refine cW 1 [] rfl (by exact⟨[_],O⟩) (fun w hT=>have O:=hT.sat;(ld rfl)) ?_;refine bA 2 [] rfl (fun w=>(aa rfl bT)) ?_;refine cW 3 [] rfl (by exact⟨[_],O⟩) (fun w hT=>have O:=hT.sat;(ld rfl)) ?_;refine bA 4 [] rfl (fun w=>(iA rfl rfl fz fU)) ?_;refine cW 5 [] rfl (by exact⟨[_],O⟩) (fun w hT=>have O:=hT.sat;(an rfl iy (gy (O.p 2) hl1))) ?_;refine bA 6 [] rfl (fun w=>(aa rfl dU)) ?_;refine cW 7 [] rfl (by exact⟨[_],O⟩) (fun w hT=>have O:=hT.sat;(ld rfl)) ?_;intro a I;refine aG 8 (by kernel_rfl) ?_;refine eL I rfl rfl rfl aB jW rfl rfl rfl (by simp[Value.oneCell']) O ?_;clear I a O;intro A87 w O;intro a I;refine⟨.inr fun _=>(by exact⟨[_,_],O⟩),?_⟩;refine aG 9 (by kernel_rfl) ?_;refine eA I rfl rfl rfl rfl aB jW rfl (O.p 1) (O.rd.src aB (by simp[Value.oneCell'])) (by omega) (by omega) ?_
      clear I a O;intro A88 c88 w hc88 O;intro a I;refine⟨.inr fun _=>(by exact⟨[_,_],O⟩),?_⟩;refine P1 10 [] I rfl (fun w=>(fL (I.ev rfl) (I.ev rfl) fz fU (by omega) (by omega))) ?_;clear I a;intro a I;refine aG 11 (by kernel_rfl) ?_;refine He (i:=s.rep.toNat) ⟨A88,c88,(dt ((ps.map PL.d).take i) d (min d.vec.length 16) k s.rep.toNat).map Prod.fst++[s.lo]⟩ I rfl rfl (by simp) rfl (by simp[Loc.v]) iy fU (O.p 4) hl1 ?_;clear O;intro w O;replace O:=jH (f:=Loc.eI 3) hl1 (l':=⟨A88,c88,(dt ((ps.map PL.d).take i) d (min d.vec.length 16) k s.rep.toNat).map Prod.fst++[s.lo]⟩) (gL ((O.p 3).p 2) (by simp) (by simp));replace O:=(O.p 2).drop;replace O:Sat W w (cN 3 mA mc ((dt ((ps.map PL.d).take i) d (min d.vec.length 16) k s.rep.toNat).map Prod.snd)::_):=(O.p 4).dJ (iV hl2);refine⟨.inl rfl,?_⟩
      refine ah (by kernel_rfl) ?_ _;refine rE 1 I ?_;clear I a;intro a I;refine jk [11] (lF W [br ((l2.map (Loc.eI 3)).eraseIdx s.rep.toNat),br ((l1.set s.rep.toNat ⟨A88,c88,(dt ((ps.map PL.d).take i) d (min d.vec.length 16) k s.rep.toNat).map Prod.fst++[s.lo]⟩).map (Loc.eI 3)),dA 375 b3 (l1.set s.rep.toNat ⟨A88,c88,(dt ((ps.map PL.d).take i) d (min d.vec.length 16) k s.rep.toNat).map Prod.fst++[s.lo]⟩),aV b8 (.cells #[.int .i64 s.rep,.int .i64 s.lo,.int .i64 s.hi] 219),dA 375 b4 l2,dA 377 b2 (List.replicate 16 (⟨none,0,[]⟩:Loc Int))]) (by kernel_rfl) ?_;replace O:=O.drew;refine P1 0 [] I rfl (fun w=>(aa (I.ev rfl) bT)) ?_;clear I a
      refine cW 1 [] rfl (by exact⟨[_],O⟩) (fun w hT=>have O:=hT.sat;(ld rfl)) ?_;refine bA 2 [] rfl (fun w=>(aa rfl bT)) ?_;refine cW 3 [] rfl (by exact⟨[_],O⟩) (fun w hT=>have O:=hT.sat;(ld rfl)) ?_;refine bA 4 [] rfl (fun w=>(iA rfl rfl fz fU)) ?_;refine cW 5 [] rfl (by exact⟨[_],O⟩) (fun w hT=>have O:=hT.sat;(an rfl iy (gy (O.p 4) hl2))) ?_;refine bA 6 [] rfl (fun w=>(aa rfl dV)) ?_;refine cW 7 [] rfl (by exact⟨[_],O⟩) (fun w hT=>have O:=hT.sat;(ld rfl)) ?_;intro a I;refine aG 8 (by kernel_rfl) ?_;refine eL I rfl rfl rfl aB jW rfl rfl rfl (by simp[Value.oneCell']) O ?_;clear I a O;intro A98 w O;intro a I;refine⟨.inr fun _=>(by exact⟨[_,_],O⟩),?_⟩;refine aG 9 (by kernel_rfl) ?_;refine eA I rfl rfl rfl rfl aB jW rfl (O.p 1) (O.rd.src aB (by simp[Value.oneCell'])) (by omega) (by omega) ?_
      clear I a O;intro A99 c99 w hc99 O;intro a I;refine⟨.inr fun _=>(by exact⟨[_,_],O⟩),?_⟩;refine P1 10 [] I rfl (fun w=>(fL (I.ev rfl) (I.ev rfl) fz fU (by omega) (by omega))) ?_;clear I a;intro a I;refine aG 11 (by kernel_rfl) ?_;refine He (i:=s.rep.toNat) ⟨A99,c99,(dt ((ps.map PL.d).take i) d (min d.vec.length 16) k s.rep.toNat).map Prod.snd++[s.hi]⟩ I rfl rfl (by simp) rfl (by simp[Loc.v]) iy fU (O.p 6) hl2 ?_;clear O;intro w O;refine⟨.inl rfl,?_⟩;refine ah (by kernel_rfl) ?_ _;refine rE 4 I ?_;clear I a;refine u1 2 (ad rfl rfl) ?_;intro a I;replace I:=I.kp [0,2,3,4,5,7] rfl;have hS2:=jH (f:=Loc.eI 3) hl2 (l':=⟨A99,c99,(dt ((ps.map PL.d).take i) d (min d.vec.length 16) k s.rep.toNat).map Prod.snd++[s.hi]⟩) (gL ((O.p 3).p 2) (by simp) (by simp))
      have hst:=fun q=>fb (T:=((ps.map PL.d).take i)) (j:=min d.vec.length 16) hs q
      refine⟨d.ab.length-(k+1),by omega,k+1,_,_,I,(((((hS2.p 6).p 1).p 2).p 4).p 5).de [_,_,_,_,_],by omega,?_,?_,rfl⟩
      ·refine hT1.set ?_ fun q hq hne=>?_
       ·rw[hst,if_pos (by omega)];simp
       ·rw[hst,if_neg (by omega),List.append_nil]
      ·refine hT2.set ?_ fun q hq hne=>?_
       ·rw[hst,if_pos (by omega)];simp
       ·rw[hst,if_neg (by omega),List.append_nil]
     ·intro h77;refine uO 9 ?_;refine u1 2 (ad rfl rfl) ?_;intro a I;replace I:=I.kp [0,2,3,4,5,7] rfl;have hst:=fun q=>fb (T:=((ps.map PL.d).take i)) (j:=min d.vec.length 16) hs q
      refine⟨d.ab.length-(k+1),by omega,k+1,l1,l2,I,O.drop,by omega,?_,?_,rfl⟩
      ·exact hT1.congr fun q hq=>by rw[hst,if_neg (by omega),List.append_nil]
      ·exact hT2.congr fun q hq=>by rw[hst,if_neg (by omega),List.append_nil]
    ·intro h73;refine uO 13 ?_;refine u1 2 (ad rfl rfl) ?_;intro a I;replace I:=I.kp [0,2,3,4,5,7] rfl;have hst:=fun q=>fb (T:=((ps.map PL.d).take i)) (j:=min d.vec.length 16) hs q
     refine⟨d.ab.length-(k+1),by omega,k+1,l1,l2,I,O.drop,by omega,?_,?_,rfl⟩
     ·exact hT1.congr fun q hq=>by rw[hst,if_neg (by omega),List.append_nil]
     ·exact hT2.congr fun q hq=>by rw[hst,if_neg (by omega),List.append_nil]
   ·intro h60;intro a I;dsimp only at h60;refine rO 11 I ?_;clear I a;refine u1 2 (ad rfl rfl) ?_;intro a I;replace I:=I.kp [0,2,3,4,5] rfl;refine⟨ps.length-(i+1),by omega,i+1,l1,l2,I,O,by omega,?_,?_,rfl⟩
    ·rw[aA (kQ hp)];exact hT1.congr fun r hr=>by rw[←nW hr (show d.ab.length≤k by omega)]
    ·rw[aA (kQ hp)];exact hT2.congr fun r hr=>by rw[←nW hr (show d.ab.length≤k by omega)]
 ·intro h14;obtain rfl:i=ps.length:=by omega
  intro a I;rw[List.take_of_length_le (by simp)]at hT1 hT2;refine rO 10 I ?_;clear I a;refine uN w3 O ?_;clear O;intro b9 w O;refine uO 9 ?_;intro a I;refine wp_loop_ghost (fun (mm:Nat) a w=>∃(r:Nat) (l3:List (Loc Int)),Ag a 116 [(2,.pointer (some ⟨b2,0,none⟩)),(3,.pointer (some ⟨b3,0,none⟩)),(4,.pointer (some ⟨b4,0,none⟩)),(9,.pointer (some ⟨b9,0,none⟩)),(10,.int .i64 ((r:Nat):Int))]∧Sat W w ([dA 377 b9 l3,br (l3.map (Loc.eI 3)),dA 375 b3 l1,br (l1.map (Loc.eI 3)),dA 375 b4 l2,br (l2.map (Loc.eI 3)),dA 377 b2 (List.replicate 16 (⟨none,0,[]⟩:Loc Int))])∧(r≤16)∧(dF l3 (wO (ps.map PL.d) r))∧mm=16-r) 16 ?_ ?_
  ·replace I:=I.kp [2,3,4,9,10] rfl;have hS0:=kO (Loc.eI 3) O (fun L' s=>s.aW 3 1) 16;have hS1:Sat W w [dA 377 b9 (List.replicate 16 (⟨none,0,[]⟩:Loc Int)),br ((List.replicate 16 (⟨none,0,[]⟩:Loc Int)).map (Loc.eI 3)),dA 375 b3 l1,br (l1.map (Loc.eI 3)),dA 375 b4 l2,br (l2.map (Loc.eI 3)),dA 377 b2 (List.replicate 16 (⟨none,0,[]⟩:Loc Int))]:=hS0.p 1;exact⟨0,_,I,hS1,(by omega),(by exact km.congr fun r hr=>by simp[wO]),by omega⟩
  intro m a w hI;clear O I;obtain⟨r,l3,I,O,hr,hT3,rfl⟩:=hI;refine rC 4 I ?_;clear I a;refine aM 0 0 (aq rfl rfl) ?_ ?_
  ·intro h102;obtain⟨lA,lc,hl1⟩:=hT1.get (show r<16 by omega);obtain⟨mA,mc,hl2⟩:=hT2.get (show r<16 by omega);obtain⟨nA,nc,hl3⟩:=hT3.get (show r<16 by omega);have hrl:=Nat.le_trans (kA (ps.map PL.d) r) ht;refine uO 7 ?_;intro a I;refine bg [7,10] O (by kernel_rfl) ?_;replace O:=O.drew;refine rX [0,1] I ?_;clear I a;refine bA 2 [] rfl (fun w=>(iA rfl rfl fz fU)) ?_;refine cW 3 [4] rfl (by exact⟨[],O⟩) (fun w hT=>have O:=hT.sat;(an rfl iy (gy (O.p 2) hl1))) ?_;refine bA 5 [] rfl (fun w=>(iA rfl rfl fz fU)) ?_;refine cW 6 [] rfl (by exact⟨[],O⟩) (fun w hT=>have O:=hT.sat;(an rfl iy (gy (O.p 4) hl2))) ?_;refine bA 8 [] rfl (fun w=>(aa rfl ia)) ?_;intro a I;refine aG 7 (by kernel_rfl) ?_
   refine eF I rfl rfl Ij rfl (zG _ _ _ _ _ _ _ (gl (ps.map PL.d) r) (kx (O.p 3) hl1) (kx (O.p 5) hl2) (List.length_map _) (List.length_map _) hrl) ?_;clear I a;rintro e w ⟨A112,c112,rfl,hT⟩;replace O:=O.ar hT;clear hT;refine⟨_,rfl,?_⟩;intro a I;refine⟨.inl rfl,?_⟩;refine P1 9 [] I rfl (fun w=>(fL (I.ev rfl) (I.ev rfl) fz fU (by omega) (by omega))) ?_;clear I a;intro a I;refine aG 10 (by kernel_rfl) ?_;refine He (i:=r) ⟨A112,c112,bG (au (gl (ps.map PL.d) r))⟩ I rfl rfl (by simp) rfl rfl iy fU (O.p 1) hl3 ?_;clear O;intro w O;refine⟨.inl rfl,?_⟩;refine ah (by kernel_rfl) ?_ _;refine rE 4 I ?_;clear I a;refine u1 2 (ad rfl rfl) ?_;intro a I;replace I:=I.kp [2,3,4,9,10] rfl;have hS2:=((O.p 2).dJ (iV hl3)).drop
   have hS3:=jH (f:=Loc.eI 3) hl3 (l':=⟨A112,c112,bG (au (gl (ps.map PL.d) r))⟩) (((hS2.p 1).p 1).p 2);refine⟨16-(r+1),by omega,r+1,_,I,hS3.p 1,by omega,?_,rfl⟩;exact hT3.set (CQ _ _).symm fun k hk hne=>Cq hne
  ·intro h102;obtain rfl:r=16:=by omega
   refine uO 8 ?_;intro a I;replace I:=I.kp [2,9] rfl;refine rC 2 I ?_;clear I a;refine u1 0 (ax (cs:=l3.map Loc.v) rfl yY (by rw[List.length_map,hT3.1];exact qy) (lu O)) ?_;intro a I;refine FA (ls:=l3) I rfl rfl qy hT3.1 (by simp) (O.p 6) ?_;clear O;intro w O;refine rO 3 I ?_;clear I a;intro a I;refine gP I rfl (dj (cs:=l3.map Loc.v) I rfl yY (by rw[List.length_map,hT3.1];exact qy) (lu O)) ?_;exact⟨l3,rfl,hT3.congr fun r hr=>if_pos hr,cu (O.p 2)⟩
theorem oJ (W:World)(p:PL)(hp:p.ok W)(hlc:p.d.ab.length≤10000000000):Calls Tryz.prog 260 #[.agg #[.slice p.va p.d.vec.length p.vc,.slice p.ca p.d.ab.length p.cc]] W fun e w'=>∃ls:List (Loc Int),e=.returned (.agg (ls.map Loc.v).toArray)∧dF ls (fun r=>bG (aO p.d r))∧Sat W w' [br (ls.map (Loc.eI 3))]:=by
 refine bP Tryz.func260 [0] ?_;have O:=Sat.start W;refine uC 2 ?_;refine uB rfl O ?_;clear O;intro b1 w O;refine uN w3 O ?_;clear O;intro b2 w O;refine uO 4 ?_;refine u1 0 (lS (cs:=[_,_]) rfl) ?_;intro a I;refine jl (vss:=[[_,_]]) I rfl rfl fN pA rfl rfl rfl (by simp) rfl O ?_;clear I a O;intro A4 w O;refine uF rfl (AQ _ _ _ [p] O.rd (fun q hq=>by simp at hq;subst hq;exact hp.sat O) (by simp) (by simp[cP];omega)) ?_;rintro e w ⟨ls,rfl,hT0,hT⟩;replace O:=O.ar hT;clear hT;have hT1:dF ls (fun r=>bG (aO p.d r)):=hT0.congr fun r hr=>(by simp[gl,aO])
 intro a I;refine FA (ls:=ls) (cs:=((List.replicate 16 (⟨none,0,[]⟩:Loc Int)).map Loc.v)) I rfl rfl qy hT1.1 (by simp) (O.p 2) ?_;clear O;intro w O;refine rO 3 I ?_;clear I a;intro a I;refine gP I rfl (dj (cs:=ls.map Loc.v) I rfl yY (by rw[List.length_map,hT1.1];exact qy) (lu O)) ?_;exact⟨ls,rfl,hT1,cu O.qu⟩
theorem tJ (W:World)(ls:List (Loc Int))(f:Nat→List bn)(hT:dF ls (fun r=>bG (f r)))(hc:∀r,can (f r))(hR:∀(r:Nat) (l:Loc Int),ls[r]?=some l→kb W l.a l.c l.xs)(hb:∀r,r<16→(f r).length≤100000000000):Calls Tryz.prog 259 #[.agg (ls.map Loc.v).toArray] W fun e w'=>∃q:PL,e=.returned (.agg #[.slice q.va q.d.vec.length q.vc,.slice q.ca q.d.ab.length q.cc])∧q.d=fZ f∧Sat W w' [cN 3 q.va q.vc q.d.vec,bH 219 q.ca q.cc q.d.ab]:=by
 refine bP Tryz.func259 [0] ?_;have O:=Sat.start W;refine uC 2 ?_;refine uB rfl O ?_;clear O;intro b1 w O;refine uN dN O ?_;clear O;intro b2 w O;refine uO 4 ?_;refine uN dN O ?_;clear O;intro b3 w O;refine uO 4 ?_;intro a I;refine J8 I rfl rfl rfl aB jW rfl (by decide) (by decide) O ?_;clear I a O;intro b8 w O;refine uO 15 ?_;intro a I
 refine wp_loop_ghost (fun (mm:Nat) a w=>∃(r:Nat) (Ac:Option Addr) (cc:Nat),Ag a 73 [(1,.pointer (some ⟨b1,0,none⟩)),(2,.pointer (some ⟨b2,0,none⟩)),(3,.pointer (some ⟨b3,0,none⟩)),(4,.slice (some ⟨b8,0,none⟩) 16 16),(5,.int .i64 (((cF (bh f) r):Nat):Int)),(6,.int .i64 ((r:Nat):Int))]∧Sat W w ([dA 377 b1 ls,aV b3 (.cells #[.slice none 0 0,.slice Ac (((List.range r).flatMap (aP f))).length cc] 63),bH 219 Ac cc ((List.range r).flatMap (aP f)),aV b8 (.cells (((List.range r).map (bh f)++List.replicate (16-r) 0).map (Value.int .i64)).toArray 3 (0,0)),aV b2 (.cells #[.slice none 0 0,.slice none 0 0] 63)])∧(r≤16)∧mm=16-r) 16 ?_ ?_
 ·replace I:=I.kp [1,2,3,4,5,6] rfl;have hS1:Sat W w [dA 377 b1 ls,aV b3 (.cells #[.slice none 0 0,.slice none ((List.range 0).flatMap (aP f)).length 0] 63),bH 219 none 0 ((List.range 0).flatMap (aP f)),aV b8 (.cells (((List.range 0).map (bh f)++List.replicate (16-0) 0).map (Value.int .i64)).toArray 3 (0,0)),aV b2 (.cells #[.slice none 0 0,.slice none 0 0] 63)]:=((((((O.aW 219 3).p 3).p 2).p 2).p 3).p 4);exact⟨0,none,0,I,hS1,(by omega),by omega⟩
 intro m a w hI;clear O I;obtain⟨r,Ac,cc,I,O,hr,rfl⟩:=hI;refine rC 4 I ?_;clear I a;refine aM 0 0 (aq rfl rfl) ?_ ?_
 ·intro h10;obtain⟨lA,lc,hl⟩:=hT.get (show r<16 by omega);have hrd:kb W lA lc (bG (f r)):=hR r _ hl;have hcr:=hc r;have hbr:=hb r (by omega);have hpl:=jI (f r);have hcl:=qU hb r (by omega);refine uO 13 ?_;intro a I
  refine wp_loop_ghost (fun (mm:Nat) a w=>∃(q sz:Nat) (Ac:Option Addr) (cc:Nat),Ag a 73 [(1,.pointer (some ⟨b1,0,none⟩)),(2,.pointer (some ⟨b2,0,none⟩)),(3,.pointer (some ⟨b3,0,none⟩)),(4,.slice (some ⟨b8,0,none⟩) 16 16),(5,.int .i64 ((sz:Nat):Int)),(6,.int .i64 ((r:Nat):Int)),(7,.int .i64 (((2 * q):Nat):Int))]∧Sat W w ([dA 377 b1 ls,aV b3 (.cells #[.slice none 0 0,.slice Ac ((((List.range r).flatMap (aP f))++(aR ((f r).take q)).2.map (jX r))).length cc] 63),bH 219 Ac cc (((List.range r).flatMap (aP f))++(aR ((f r).take q)).2.map (jX r)),aV b8 (.cells (j3 (bh f) r (aR ((f r).take q)).1).toArray 3 (0,0)),aV b2 (.cells #[.slice none 0 0,.slice none 0 0] 63)])∧(q≤(f r).length)∧(sz=if 0<(aR ((f r).take q)).1 then r+1 else cF (bh f) r)∧mm=(f r).length-q) (f r).length ?_ ?_
  ·replace I:=I.kp [1,2,3,4,5,6,7] rfl;rw[zR (f:=(bh f)) (by omega)]at O
   have hS1:Sat W w [dA 377 b1 ls,aV b3 (.cells #[.slice none 0 0,.slice Ac ((((List.range r).flatMap (aP f))++(aR ((f r).take 0)).2.map (jX r))).length cc] 63),bH 219 Ac cc (((List.range r).flatMap (aP f))++(aR ((f r).take 0)).2.map (jX r)),aV b8 (.cells (j3 (bh f) r (aR ((f r).take 0)).1).toArray 3 (0,0)),aV b2 (.cells #[.slice none 0 0,.slice none 0 0] 63)]:=by
    rw[List.take_zero,show (aR []).2=[] from rfl,List.map_nil,List.append_nil];exact O
   exact⟨0,(cF (bh f) r),Ac,cc,I,hS1,(by omega),(by rfl),by omega⟩
  intro m a w hI;clear O I;obtain⟨q,sz,Ac,cc,I,O,hq,hsz,rfl⟩:=hI;refine rC 4 I ?_;clear I a;refine u1 1 (ad rfl rfl) ?_;refine u1 0 (aa rfl ia) ?_;refine u1 0 (iA rfl rfl fz fU) ?_;refine u1 0 (an rfl iy (jx O hl)) ?_;refine u1 0 (ak rfl aB) ?_;refine aM 0 0 (aq rfl rfl) ?_ ?_
  ·intro h20;obtain⟨x,hx⟩:∃x,(f r)[q]?=some x:=⟨_,List.getElem?_eq_getElem (by omega)⟩;obtain⟨hx1,hx2⟩:=wM hx;have hxe:=hcr.each x (List.mem_of_getElem? hx);intro a I;rw[dH]at hxe;have hgl:=lP ((f r).take q);rw[List.length_take]at hgl;have hcl2:(((List.range r).flatMap (aP f))++(aR ((f r).take q)).2.map (jX r)).length≤r * 100000000000+q:=by rw[List.length_append,List.length_map];omega
   refine rO 10 I ?_;clear I a;refine u1 0 (aa rfl ia) ?_;refine u1 0 (iA rfl rfl fz fU) ?_;refine u1 1 (an rfl iy (jx O hl)) ?_;obtain⟨lA_p,rfl⟩:∃q,lA=some q:=(hrd.sat O).ao (by omega);refine u1 0 (ix rfl rfl aB fS) ?_;refine u1 0 (an rfl dE (gb (hrd.sat O) (bu hx1))) ?_;refine aM 0 0 (aY rfl rfl) ?_ ?_
   ·intro h30;refine uO 8 ?_;refine u1 0 (aa rfl ia) ?_;refine u1 0 (iA rfl rfl fz fU) ?_;refine u1 1 (an rfl iy (jx O hl)) ?_;refine u1 0 (ad rfl rfl) ?_;refine u1 0 (ix rfl rfl aB fS) ?_;refine u1 0 (an rfl dE (gb (hrd.sat O) (bu hx2))) ?_;refine u1 0 (sb rfl rfl) ?_;refine u1 0 (ix rfl rfl aB fS) ?_;intro a I;refine HW (j:=r) I rfl (by rw[add_lit];simp) rfl dE fS rfl (O.p 3) (AW _) ?_;clear O;intro w O;rw[AJ]at O;refine rO 4 I ?_;clear I a;refine u1 6 (ad rfl rfl) ?_;refine u1 2 (ad rfl rfl) ?_;intro a I;replace I:=I.kp [1,2,3,4,5,6,7] rfl;have hcg:=zI hcr (q+1);rw[aA hx]at hcg;have els:=v7 hcg;rw[←aA hx]at els;rw[if_pos h30]at els;have e1:(aR ((f r).take (q+1))).1=x.2:=by rw[els]
    have h0:(f r).take q=[]:=by
     cases hg:(f r).take q with
     | nil=>rfl
     | cons y t=>rw[hg]at hcg;have:=hcg.2.2.2.1 x (by simp);have:=hcg.1;have:=hcg.2.1;omega
    have e2:(aR ((f r).take (q+1))).2=(aR ((f r).take q)).2:=by rw[els,h0];rfl
    refine⟨(f r).length-(q+1),by omega,q+1,r+1,Ac,cc,?_,?_,by omega,?_,rfl⟩
    ·exact I
    ·rw[e1,e2,show x.2=x.2+1-1 from by omega];exact (((O.p 3).p 3).p 3)
    ·rw[e1,if_pos (by have:=hcr.each x (List.mem_of_getElem? hx);omega)]
   ·intro h30;refine uO 3 ?_;intro a I;refine bg [21,23] O (by kernel_rfl) ?_;replace O:=O.drew;refine P1 0 [] I rfl (fun w=>(aa (I.ev rfl) bX)) ?_;clear I a
    refine cW 1 [2,3] rfl (by exact⟨[],O⟩) (fun w hT=>have O:=hT.sat;(ld rfl)) ?_;refine bA 4 [] rfl (fun w=>(aa rfl ia)) ?_;refine bA 5 [] rfl (fun w=>(iA rfl rfl fz fU)) ?_;refine cW 6 [7] rfl (by exact⟨[],O⟩) (fun w hT=>have O:=hT.sat;(an rfl iy (jx O hl))) ?_;refine bA 8 [] rfl (fun w=>(ix rfl rfl aB fS)) ?_;refine cW 9 [10] rfl (by exact⟨[],O⟩) (fun w hT=>have O:=hT.sat;(an rfl dE (gb (hrd.sat O) (bu hx1)))) ?_;refine bA 11 [] rfl (fun w=>(aa rfl ia)) ?_;refine bA 12 [] rfl (fun w=>(iA rfl rfl fz fU)) ?_;refine cW 13 [14] rfl (by exact⟨[],O⟩) (fun w hT=>have O:=hT.sat;(an rfl iy (jx O hl))) ?_;refine bA 15 [] rfl (fun w=>(ad rfl rfl)) ?_;refine bA 16 [] rfl (fun w=>(ix rfl rfl aB fS)) ?_;refine cW 17 [] rfl (by exact⟨[],O⟩) (fun w hT=>have O:=hT.sat;(an rfl dE (gb (hrd.sat O) (bu hx2)))) ?_;refine bA 18 [] rfl (fun w=>(sb rfl rfl)) ?_
    intro a I;refine P1 19 [] I rfl (fun w=>(aL I rfl jM)) ?_;clear I a;intro a I;refine aG 20 (by kernel_rfl) ?_;refine vv (vss:=[[_,_,_]]) I rfl rfl rfl dp pa rfl rfl rfl (by simp) rfl O ?_;clear I a O;intro A65 w O;intro a I;refine⟨.inr fun _=>(by exact⟨[_],O⟩),?_⟩;refine aG 21 (by kernel_rfl) ?_;refine eA I rfl rfl rfl rfl dp pa rfl (O.p 3) (O.rd.src dp (by simp[Value.oneCell'])) (by omega) (by omega) ?_;clear I a O;intro A66 c66 w hc66 O;intro a I;refine⟨.inl rfl,?_⟩;refine P1 22 [] I rfl (fun w=>(aa (I.ev rfl) bX)) ?_;clear I a;intro a I;refine aG 23 (by kernel_rfl) ?_;refine Hr (cs':=[_,_]) I rfl rfl rfl xJ EU rfl (O.p 3) rfl rfl ?_;clear O;intro w O;refine⟨.inl rfl,?_⟩;refine ah (by kernel_rfl) ?_ _;refine rE 4 I ?_;clear I a;refine u1 2 (ad rfl rfl) ?_;intro a I
    replace I:=I.kp [1,2,3,4,5,6,7] rfl;have hcg:=zI hcr (q+1);rw[aA hx]at hcg;have els:=v7 hcg;rw[←aA hx]at els;rw[if_neg h30]at els;have e1:(aR ((f r).take (q+1))).1=(aR ((f r).take q)).1:=by rw[els]
    have e2:(((List.range r).flatMap (aP f))++(aR ((f r).take q)).2.map (jX r))++[jX r x]=((List.range r).flatMap (aP f))++(aR ((f r).take (q+1))).2.map (jX r):=by rw[els,List.map_append,List.append_assoc];rfl
    have el:(((List.range r).flatMap (aP f))++(aR ((f r).take q)).2.map (jX r)).length+1=(((List.range r).flatMap (aP f))++(aR ((f r).take (q+1))).2.map (jX r)).length:=by rw[←e2,List.length_append (bs:=[jX r x])];rfl
    have hS2:=gL (O.p 1) (m:=(((List.range r).flatMap (aP f))++(aR ((f r).take (q+1))).2.map (jX r)).length) (cs':=(((List.range r).flatMap (aP f))++(aR ((f r).take (q+1))).2.map (jX r)).flatMap gi) el (by rw[←e2,List.flatMap_append];simp[gi,jX]);rw[el]at hS2;refine⟨(f r).length-(q+1),by omega,q+1,sz,A66,c66,I,?_,by omega,by rw[e1];exact hsz,rfl⟩;rw[e1];exact (((((hS2.p 5).p 5).p 2).p 3).p 5).de [_,_,_,_,_]
  ·intro h20;refine uO 11 ?_;refine u1 2 (ad rfl rfl) ?_;intro a I;replace I:=I.kp [1,2,3,4,5,6] rfl;have eg:(f r).take q=f r:=List.take_of_length_le (by omega);have ec:(((List.range r).flatMap (aP f))++(aR ((f r).take q)).2.map (jX r))=(List.range (r+1)).flatMap (aP f):=by rw[mx,ql,eg]
   have ev:(j3 (bh f) r (aR ((f r).take q)).1)=((List.range (r+1)).map (bh f)++List.replicate (16-(r+1)) 0).map (Value.int .i64):=by rw[eg];exact Ad (f:=(bh f)) (by omega)
   have es:sz=cF (bh f) (r+1):=by rw[hsz,eg];rfl
   rw[ec,ev]at O;rw[es]at I;exact⟨16-(r+1),by omega,r+1,Ac,cc,I,O,by omega,rfl⟩
 ·intro h10;obtain rfl:r=16:=by omega
  have hsz16:=my (bh f) 16;refine uO 12 ?_;refine u1 0 (aI (iF rfl rfl aB fS (by omega) (by omega)) (show _=Value.slice (some ⟨b8,0,none⟩) (cF (bh f) 16) 16 from by rw[rY];rfl)) ?_;refine u1 0 (aa rfl cy) ?_;intro a I;refine mM (cs':=[_,_]) I rfl rfl iy fU rfl (O.p 1) rfl rfl ?_;clear O;intro w O;refine rO 2 I ?_;clear I a;intro a I;replace I:=I.kp [2,3] rfl;refine rC 2 I ?_;clear I a;refine u1 0 (lS (cs:=[_,_]) rfl) ?_;refine uW (vs:=[_,_]) (cs':=[_,_]) rfl rfl bj (O.p 4) ?_;clear O;intro w O;refine uO 3 ?_;intro a I;refine gP I rfl (dj (cs:=[_,_]) I rfl fy bj (by exact O.aE (xs:=[_,_]) rfl)) ?_;have hS2:=((O.p 4).F6 (m:=16) (BS (Nat.le_refl _)) (by decide)).shrink hsz16 (by simp);rw[Nat.mul_one,zQ hsz16]at hS2
  refine⟨⟨some ⟨b8,0,none⟩,16,Ac,cc,fZ f⟩,by simp[fZ],rfl,?_⟩;have hS3:=gL hS2 (m:=((List.range (cF (bh f) 16)).map (bh f)).length) (by simp) rfl;exact oW ((hS3.p 4).p 1)
theorem lL (W:World)(p:PL)(hp:p.ok W)(hlc:p.d.ab.length≤10000000000):Calls Tryz.prog 227 #[.agg #[.slice p.va p.d.vec.length p.vc,.slice p.ca p.d.ab.length p.cc]] W fun e w'=>∃q:PL,e=.returned (.agg #[.slice q.va q.d.vec.length q.vc,.slice q.ca q.d.ab.length q.cc])∧q.d=gU p.d∧Sat W w' [cN 3 q.va q.vc q.d.vec,bH 219 q.ca q.cc q.d.ab]:=by
 refine bP Tryz.func227 [0] ?_;have O:=Sat.start W;refine uC 2 ?_;refine uB rfl O ?_;clear O;intro b1 w O;refine uN dN O ?_;clear O;intro b2 w O;refine uO 4 ?_;refine u1 0 (lS (cs:=[_,_]) rfl) ?_;refine uF rfl (oJ _ p (hp.sat O) hlc) ?_;rintro e w ⟨ls,rfl,hT1,hT⟩;replace O:=O.ar hT;clear hT;refine uF rfl (tJ _ ls (aO p.d) hT1 (bx p.d) (fun r l h=>kx O h) (fun r hr=>by have:=cH (cO p.d r);have:=ed p.d r;unfold aO;omega)) ?_;rintro e w ⟨q,rfl,hq,hT⟩;replace O:Sat _ _ (_::_::_):=O.ag hT;clear hT;refine uW (vs:=[_,_]) (cs':=[_,_]) rfl rfl bj (O.p 3) ?_;clear O;intro w O;refine uO 3 ?_;intro a I;refine gP I rfl (dj (cs:=[_,_]) I rfl fy bj (by exact O.aE (xs:=[_,_]) rfl)) ?_;exact⟨q,rfl,hq,oW ((O.p 2).p 2)⟩
theorem mV (W:World)(r n:Int)  : Calls Tryz.prog 263 #[.agg #[.int .i64 r,.int .i64 n]] W fun e w'=>e=.returned (.bool (dG r n))∧Sat W w' []:=by
 refine bP Tryz.func263 [0] ?_;have O:=Sat.start W;refine uC 2 ?_;refine uB rfl O ?_;clear O;intro b1 w O;refine uO 5 ?_;refine u1 0 (aa rfl bw) ?_;refine u1 0 (ld rfl) ?_;refine aM 0 0 (ek rfl rfl) ?_ ?_
 ·intro h5;refine uO 1 ?_;refine u1 0 (aa rfl bw) ?_;refine u1 0 (ld rfl) ?_;refine aM 0 0 (aq rfl rfl) ?_ ?_
  ·intro h9;refine uO 2 ?_;refine u1 0 (aa rfl bN) ?_;refine u1 0 (ld rfl) ?_;refine aM 0 0 (ek rfl rfl) ?_ ?_
   ·intro h14;refine uO 2 ?_;refine u1 0 (aa rfl bN) ?_;refine u1 0 (ld rfl) ?_;refine u1 5 (dT rfl rfl) ?_;refine aU ?_;refine⟨?_,O.nil⟩;unfold dG
    congr 2
    rw[Bool.eq_iff_iff];simp only[Bool.and_eq_true,decide_eq_true_eq,Bool.false_eq_true,false_iff];omega
   ·intro h14;refine uO 10 ?_;refine aU ?_;refine⟨?_,O.nil⟩;unfold dG
    congr 2
    rw[Bool.eq_iff_iff];simp only[Bool.and_eq_true,decide_eq_true_eq,Bool.false_eq_true,false_iff];omega
  ·intro h9;refine uO 15 ?_;refine aU ?_;refine⟨?_,O.nil⟩;unfold dG
   congr 2
   rw[Bool.eq_iff_iff];simp only[Bool.and_eq_true,decide_eq_true_eq,Bool.false_eq_true,false_iff];omega
 ·intro h5;refine uO 19 ?_;refine aU ?_;refine⟨?_,O.nil⟩;unfold dG
  congr 2
  rw[Bool.eq_iff_iff];simp only[Bool.and_eq_true,decide_eq_true_eq,Bool.false_eq_true,false_iff];omega
theorem gm (W:World)(x y:Int)  : Calls Tryz.prog 281 #[.int .i64 x,.int .i64 y] W fun e w'=>e=.returned (.int .i64 (gu x y))∧Sat W w' []:=by
 refine bP Tryz.func281 [0,1] ?_;have O:=Sat.start W;refine uC 10 ?_;refine aM 0 0 (aq rfl rfl) ?_ ?_
 ·intro h7;refine uO 10 ?_;refine aU ?_;refine⟨?_,O⟩;unfold gu
  (repeat' split)<;>rfl
 ·intro h7;refine uO 10 ?_;refine aM 0 0 (db rfl rfl) ?_ ?_
  ·intro h10;refine uO 10 ?_;refine aU ?_;refine⟨?_,O⟩;unfold gu
   (repeat' split)<;>first | rfl | omega
  ·intro h10;refine uO 11 ?_;refine aU ?_;refine⟨?_,O⟩;unfold gu
   (repeat' split)<;>first | rfl | omega
theorem tT (W:World)(p:PL)(r n:Int)(hp:p.ok W)(hlv:p.d.vec.length≤1000000000000)(hlc:p.d.ab.length≤1000000000000):Calls Tryz.prog 271 #[.agg #[.slice p.va p.d.vec.length p.vc,.slice p.ca p.d.ab.length p.cc],.agg #[.int .i64 r,.int .i64 n]] W fun e w'=>e=.returned (.bool (hasB p.d r n))∧Sat W w' []:=by
 refine bP Tryz.func271 [0,1] ?_;have O:=Sat.start W;obtain⟨va,vc,ca,cc,d⟩:=p;have hpv:kb W va vc d.vec:=hp.vec;have hpc:gK W ca cc d.ab:=hp.ab;intro a I;dsimp only at hlv hlc I ⊢;refine rC 2 I ?_;clear I a;refine uB rfl O ?_;clear O;intro b2 w O;refine uB rfl O ?_;clear O;intro b3 w O;refine uO 6 ?_;refine u1 0 (lS (cs:=[_,_]) rfl) ?_;refine uF rfl (mV _ r n) ?_;rintro e w ⟨rfl,hT⟩;replace O:Sat _ _ _:=O.ag hT;clear hT;generalize h8:(dG r n)=bb;cases bb
 ·refine u1 10 (aF rfl) ?_;refine aU ?_;refine⟨?_,O.nil⟩;rw[hasB,h8];rfl
 ·refine u1 7 (aF rfl) ?_;intro a I;refine cK (fun w'=>Sat _ w' _) (by kernel_rfl) (by kernel_rfl) O.drew ?_;refine Q1 0 I (fun w O=>(aa (I.ev rfl) bw)) ?_;clear I a;refine bp 0 (fun w O=>(ld rfl)) ?_;refine bp 0 (fun w O=>(aa rfl cy)) ?_;refine bp 0 (fun w O=>(ld rfl)) ?_;refine bp 0 (fun w O=>(ak rfl aB)) ?_;intro a I;refine K.sr I rfl rfl rfl (fun w O=>(aq (I.ev rfl) (I.ev rfl))) ?_ ?_
  ·clear I a;intro h15;have hdot:=h8;intro a I;unfold dG at hdot;simp only[Bool.and_eq_true,decide_eq_true_eq]at hdot;refine rQ 1 I ?_;clear I a;refine bp 0 (fun w O=>(aa rfl bN)) ?_;refine bp 0 (fun w O=>(ld rfl)) ?_;refine bp 0 (fun w O=>(aa rfl cy)) ?_;refine bp 0 (fun w O=>(ld rfl)) ?_;refine bp 0 (fun w O=>(aa rfl bw)) ?_;refine bp 0 (fun w O=>(ld rfl)) ?_;obtain⟨va_p,rfl⟩:∃q,va=some q:=(hpv.sat O).ao (by omega);obtain⟨v,hv⟩:∃zz_,d.vec[r.toNat]?=some zz_:=⟨_,List.getElem?_eq_getElem (by omega)⟩;refine bp 0 (fun w O=>(ix rfl rfl aB fS)) ?_;refine bp 0 (fun w O=>(an rfl dE (gb (hpv.sat O) (bu hv)))) ?_;intro a I;refine K.o0 I (aT I rfl rfl rfl) rfl rfl (fun w O=>(dT (I.ev rfl) (I.ev rfl))) ?_ ?_
   ·clear I a;intro h25;refine uQ 1 ?_;intro a I;refine wpQuiet_nil ?_;clear O;intro w O;refine rE 9 I ?_;clear I a;refine aU ?_;have hv2:iE d.vec r n=true:=by unfold iE;rw[hv];simp;omega
    refine⟨?_,O.nil⟩;rw[hasB,h8,hv2];simp
   ·clear I a;intro h25;refine uQ 1 ?_;intro a I;refine wpQuiet_nil ?_;clear O;intro w O;refine rE 11 I ?_;clear I a;intro a I;refine wp_loop_ghost (fun (mm:Nat) a w=>∃(k:Nat),Ag a 58 [(2,.pointer (some ⟨b2,0,none⟩)),(3,.pointer (some ⟨b3,0,none⟩)),(5,.int .i64 ((k:Nat):Int))]∧Sat W w ([aV b3 (.cells #[.int .i64 r,.int .i64 n] 214),aV b2 (.cells #[.slice (some va_p) d.vec.length vc,.slice ca d.ab.length cc] 63)])∧(k≤d.ab.length)∧((d.ab.take k).any (fun s=>sK s r n)=false)∧mm=d.ab.length-k) d.ab.length ?_ ?_
    ·replace I:=I.kp [2,3,5] rfl;exact⟨0,I,O,(by omega),(by rfl),by omega⟩
    intro m a w hI;clear O I;obtain⟨k,I,O,hk,he,rfl⟩:=hI;refine rC 4 I ?_;clear I a;refine u1 0 (aa rfl bX) ?_;refine u1 0 (ld rfl) ?_;refine u1 0 (ak rfl dp) ?_;refine aM 0 0 (aq rfl rfl) ?_ ?_
    ·intro h31;refine uO 9 ?_;refine u1 0 (aa rfl bX) ?_;refine u1 1 (ld rfl) ?_;obtain⟨ca_p,rfl⟩:∃q,ca=some q:=(hpc.sat O).ao (by omega);obtain⟨s,hs⟩:∃zz_,d.ab[k]?=some zz_:=⟨_,List.getElem?_eq_getElem (by omega)⟩;refine u1 0 (ix rfl rfl dp cL) ?_;refine u1 0 (ax (cs:=gi s) rfl kg cL (fun j u e=>bI (hpc.sat O) (dB hs j u e))) ?_;refine uN mz O ?_;clear O;intro b6 w O;refine uW (vs:=[_,_,_]) (cs':=[_,_,_]) rfl rfl cL O ?_;clear O;intro w O;refine uO 4 ?_;refine u1 0 (aa rfl bT) ?_;refine u1 0 (ld rfl) ?_;refine u1 0 (aa rfl bw) ?_;refine u1 0 (ld rfl) ?_;refine aM 0 0 (aY rfl rfl) ?_ ?_
     ·intro h43;refine uO 1 ?_;refine u1 0 (aa rfl dU) ?_;refine u1 0 (ld rfl) ?_;refine u1 0 (aa rfl bN) ?_;refine u1 0 (ld rfl) ?_;refine aM 0 0 (dT rfl rfl) ?_ ?_
      ·intro h49;refine uO 2 ?_;refine u1 0 (aa rfl bN) ?_;refine u1 0 (ld rfl) ?_;refine u1 0 (aa rfl dV) ?_;refine u1 0 (ld rfl) ?_;refine aM 0 0 (dT rfl rfl) ?_ ?_
       ·intro h56;refine uO 15 ?_;refine aU ?_;have hv2:iE d.vec r n=false:=by unfold iE;rw[hv];simp;omega
        have hsp:sK s r n=true:=by unfold sK;simp only[Bool.and_eq_true,decide_eq_true_eq];omega
        have hic:kq d.ab r n=true:=by rw[iI];exact List.any_eq_true.2 ⟨s,List.mem_of_getElem? hs,hsp⟩
        refine⟨?_,O.nil⟩;rw[hasB,h8,hic];simp
       ·intro h56;refine uO 9 ?_;refine u1 2 (ad rfl rfl) ?_;intro a I;replace I:=I.kp [2,3,5] rfl;have hsp:sK s r n=false:=by unfold sK;rw[Bool.eq_false_iff];simp only[ne_eq,Bool.and_eq_true,decide_eq_true_eq];omega
        refine⟨d.ab.length-(k+1),by omega,k+1,I,O.drop,by omega,?_,rfl⟩;rw[aA hs,List.any_append,he];simp[hsp]
      ·intro h49;refine uO 16 ?_;refine u1 2 (ad rfl rfl) ?_;intro a I;replace I:=I.kp [2,3,5] rfl;have hsp:sK s r n=false:=by unfold sK;rw[Bool.eq_false_iff];simp only[ne_eq,Bool.and_eq_true,decide_eq_true_eq];omega
       refine⟨d.ab.length-(k+1),by omega,k+1,I,O.drop,by omega,?_,rfl⟩;rw[aA hs,List.any_append,he];simp[hsp]
     ·intro h43;refine uO 22 ?_;refine u1 2 (ad rfl rfl) ?_;intro a I;replace I:=I.kp [2,3,5] rfl;have hsp:sK s r n=false:=by unfold sK;rw[Bool.eq_false_iff];simp only[ne_eq,Bool.and_eq_true,decide_eq_true_eq];omega
      refine⟨d.ab.length-(k+1),by omega,k+1,I,O.drop,by omega,?_,rfl⟩;rw[aA hs,List.any_append,he];simp[hsp]
    ·intro h31;refine uO 8 ?_;intro a I;replace I:=I.kp [] rfl;refine rC 6 I ?_;clear I a;refine aU ?_;have hv2:iE d.vec r n=false:=by unfold iE;rw[hv];simp;omega
     rw[List.take_of_length_le (by omega)]at he;refine⟨?_,O.nil⟩;rw[hasB,h8,hv2,iI,he];rfl
  ·clear I a;intro h15;refine uQ 11 ?_;intro a I;refine wpQuiet_nil ?_;clear O;intro w O;refine rE 11 I ?_;clear I a;intro a I;refine wp_loop_ghost (fun (mm:Nat) a w=>∃(k:Nat),Ag a 58 [(2,.pointer (some ⟨b2,0,none⟩)),(3,.pointer (some ⟨b3,0,none⟩)),(5,.int .i64 ((k:Nat):Int))]∧Sat W w ([aV b3 (.cells #[.int .i64 r,.int .i64 n] 214),aV b2 (.cells #[.slice va d.vec.length vc,.slice ca d.ab.length cc] 63)])∧(k≤d.ab.length)∧((d.ab.take k).any (fun s=>sK s r n)=false)∧mm=d.ab.length-k) d.ab.length ?_ ?_
   ·replace I:=I.kp [2,3,5] rfl;exact⟨0,I,O,(by omega),(by rfl),by omega⟩
   intro m a w hI;clear O I;obtain⟨k,I,O,hk,he,rfl⟩:=hI;refine rC 4 I ?_;clear I a;refine u1 0 (aa rfl bX) ?_;refine u1 0 (ld rfl) ?_;refine u1 0 (ak rfl dp) ?_;refine aM 0 0 (aq rfl rfl) ?_ ?_
   ·intro h31;refine uO 9 ?_;refine u1 0 (aa rfl bX) ?_;refine u1 1 (ld rfl) ?_;obtain⟨ca_p,rfl⟩:∃q,ca=some q:=(hpc.sat O).ao (by omega);obtain⟨s,hs⟩:∃zz_,d.ab[k]?=some zz_:=⟨_,List.getElem?_eq_getElem (by omega)⟩;refine u1 0 (ix rfl rfl dp cL) ?_;refine u1 0 (ax (cs:=gi s) rfl kg cL (fun j u e=>bI (hpc.sat O) (dB hs j u e))) ?_;refine uN mz O ?_;clear O;intro b6 w O;refine uW (vs:=[_,_,_]) (cs':=[_,_,_]) rfl rfl cL O ?_;clear O;intro w O;refine uO 4 ?_;refine u1 0 (aa rfl bT) ?_;refine u1 0 (ld rfl) ?_;refine u1 0 (aa rfl bw) ?_;refine u1 0 (ld rfl) ?_;refine aM 0 0 (aY rfl rfl) ?_ ?_
    ·intro h43;refine uO 1 ?_;refine u1 0 (aa rfl dU) ?_;refine u1 0 (ld rfl) ?_;refine u1 0 (aa rfl bN) ?_;refine u1 0 (ld rfl) ?_;refine aM 0 0 (dT rfl rfl) ?_ ?_
     ·intro h49;refine uO 2 ?_;refine u1 0 (aa rfl bN) ?_;refine u1 0 (ld rfl) ?_;refine u1 0 (aa rfl dV) ?_;refine u1 0 (ld rfl) ?_;refine aM 0 0 (dT rfl rfl) ?_ ?_
      ·intro h56;refine uO 15 ?_;refine aU ?_;have hv2:iE d.vec r n=false:=by unfold iE;rw[List.getElem?_eq_none (by omega)]
       have hsp:sK s r n=true:=by unfold sK;simp only[Bool.and_eq_true,decide_eq_true_eq];omega
       have hic:kq d.ab r n=true:=by rw[iI];exact List.any_eq_true.2 ⟨s,List.mem_of_getElem? hs,hsp⟩
       refine⟨?_,O.nil⟩;rw[hasB,h8,hic];simp
      ·intro h56;refine uO 9 ?_;refine u1 2 (ad rfl rfl) ?_;intro a I;replace I:=I.kp [2,3,5] rfl;have hsp:sK s r n=false:=by unfold sK;rw[Bool.eq_false_iff];simp only[ne_eq,Bool.and_eq_true,decide_eq_true_eq];omega
       refine⟨d.ab.length-(k+1),by omega,k+1,I,O.drop,by omega,?_,rfl⟩;rw[aA hs,List.any_append,he];simp[hsp]
     ·intro h49;refine uO 16 ?_;refine u1 2 (ad rfl rfl) ?_;intro a I;replace I:=I.kp [2,3,5] rfl;have hsp:sK s r n=false:=by unfold sK;rw[Bool.eq_false_iff];simp only[ne_eq,Bool.and_eq_true,decide_eq_true_eq];omega
      refine⟨d.ab.length-(k+1),by omega,k+1,I,O.drop,by omega,?_,rfl⟩;rw[aA hs,List.any_append,he];simp[hsp]
    ·intro h43;refine uO 22 ?_;refine u1 2 (ad rfl rfl) ?_;intro a I;replace I:=I.kp [2,3,5] rfl;have hsp:sK s r n=false:=by unfold sK;rw[Bool.eq_false_iff];simp only[ne_eq,Bool.and_eq_true,decide_eq_true_eq];omega
     refine⟨d.ab.length-(k+1),by omega,k+1,I,O.drop,by omega,?_,rfl⟩;rw[aA hs,List.any_append,he];simp[hsp]
   ·intro h31;refine uO 8 ?_;intro a I;replace I:=I.kp [] rfl;refine rC 6 I ?_;clear I a;refine aU ?_;have hv2:iE d.vec r n=false:=by unfold iE;rw[List.getElem?_eq_none (by omega)]
    rw[List.take_of_length_le (by omega)]at he;refine⟨?_,O.nil⟩;rw[hasB,h8,hv2,iI,he];rfl
end Go.Proofs.YtkjabaihpkbfhaaGreat.Wk
