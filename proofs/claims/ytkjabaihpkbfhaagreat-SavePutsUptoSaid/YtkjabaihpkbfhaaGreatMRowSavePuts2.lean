/- Texts of our own that a row leans on, put together. No condition of their own. -/
import Derived.Test.YtkjabaihpkbfhaaGreatMRowSavePuts1
set_option linter.unusedVariables false
set_option linter.unusedSimpArgs false
set_option maxRecDepth 100000
set_option maxHeartbeats 2000000
namespace Go.Proofs.YtkjabaihpkbfhaaGreat.Wk
open Go Go.RowKit Go.Proofs.YtkjabaihpkbfhaaGreat Go.Proofs.YtkjabaihpkbfhaaGreat.K
theorem lC {α:Type}{f:Option α→α→Bool}:∀ {l:List α} {p:Option α},kB f p l=true→∀i x,l[i]?=some x→f (ahead p l i) x=true
 | [],_,_,i,x,hx=>by simp at hx
 | y :: l, p, h, i, x, hx => by
   rw[kB,Bool.and_eq_true]at h;cases i with
   | zero=>simp at hx;subst hx;simpa[ahead]using h.1
   | succ i =>
     have e:ahead p (y::l) (i+1)=ahead (some y) l i:=by
      unfold ahead;simp;cases i with
      | zero=>simp
      | succ i=>simp
     rw[e];exact lC h.2 i x (by simpa using hx)
def dD (r n:Int):Bool:=decide (0≤r) && decide (r<16) && decide (1≤n) && decide (n≤1000000000)
def mv (s:ByteArray):Bool:=Cc s.data.toList
def mE (e:aV):Int:=if e.rep<0∨16≤e.rep then 3 else if e.num<1∨1000000000<e.num then 2 else if mv e.cy=false then 5 else if e.p4<1∨1000000<e.p4 then 6 else 0
def fU (e:aV):Bool:=dD e.rep e.num && mv e.cy && decide (1≤e.p4) && decide (e.p4≤1000000)
theorem jK (e:aV):decide (mE e=0)=fU e:=by
 unfold mE fU dD;rw[Bool.eq_iff_iff];simp only[decide_eq_true_eq,Bool.and_eq_true];constructor
 ·
  intro h
  by_cases h1:e.rep<0∨16≤e.rep
  ·
   rw[if_pos h1]at h;omega
  ·
   rw[if_neg h1]at h
   by_cases h2:e.num<1∨1000000000<e.num
   ·
    rw[if_pos h2]at h;omega
   ·
    rw[if_neg h2]at h
    by_cases h3:mv e.cy=false
    ·
     rw[if_pos h3]at h;omega
    ·
     rw[if_neg h3]at h
     by_cases h4:e.p4<1∨1000000<e.p4
     ·
      rw[if_pos h4]at h;omega
     ·
      have:mv e.cy=true:=by simpa using h3
      refine⟨⟨⟨⟨⟨⟨?_,?_⟩,?_⟩,?_⟩,this⟩,?_⟩,?_⟩<;>omega
 ·
  rintro ⟨⟨⟨⟨⟨⟨a,b⟩,c⟩,d⟩,s⟩,q⟩,r⟩;rw[if_neg (by omega),if_neg (by omega),if_neg (by simp[s]),if_neg (by omega)]
def nf (a b:aV):Bool:=decide (a.rep<b.rep) || (decide (a.rep=b.rep) && decide (a.num<b.num))
def eK (p:Option aV)(e:aV):Bool:=fU e && match p with | none=>true | some q=>nf q e
def cd (l:List aV):Bool:=kB eK none l
def bL (p:aL):Bool:=decide (hJ p=p)
def Bf (p:aL):Int:=((List.range 16).map fun r=>cY (aN p r)).sum
def eE (p:aL):Bool:=decide (Bf p=0)
def kg (c:List aO)(r n:Int):Bool:=c.any fun s=>decide (s.rep=r) && decide (s.lo≤n) && decide (n≤s.hi)
def iF (v:List Int)(r n:Int):Bool:=match v[r.toNat]? with | some m=>decide (n≤m) | none=>false
def hasB (p:aL)(r n:Int):Bool:=dD r n && (iF p.vec r n || kg p.ab r n)
theorem uk {c:List aO}{r:Nat}{n:Int}:bG (bS c r) n↔kg c r n=true:=by
 unfold bG bS kg;rw[List.any_eq_true];constructor
 ·
  rintro ⟨x,hx,h1,h2⟩;obtain⟨s,hs,h⟩:=List.mem_filterMap.1 hx
  split at h
  ·
   rename_i hr;cases h;exact⟨s,hs,by simp[hr,h1,h2]⟩
  ·
   cases h
 ·
  rintro ⟨s,hs,h⟩;simp only[Bool.and_eq_true,decide_eq_true_eq]at h;exact⟨(s.lo,s.hi),List.mem_filterMap.2 ⟨s,hs,by rw[if_pos h.1.1]⟩,h.1.2,h.2⟩
theorem iQ {p:aL}{r n:Int}:hasB p r n=true↔xZ p r n:=by
 unfold hasB xZ dD;rw[pt];simp only[Bool.and_eq_true,decide_eq_true_eq,Bool.or_eq_true,dI];constructor
 ·
  rintro ⟨⟨⟨⟨h1,h2⟩,h3⟩,h4⟩,h5⟩;refine⟨h1,h2,h3,h4,?_⟩;unfold cM;rw[dJ];rcases h5 with h5 | h5
  ·
   left
   unfold iF at h5;cases hv:p.vec[r.toNat]? with
   | none=>rw[hv]at h5;simp at h5
   | some m=>rw[hv]at h5;simp at h5;simp[bG];omega
  ·
   right;rw[uk,Int.toNat_of_nonneg h1];exact h5
 ·
  rintro ⟨h1,h2,h3,h4,h5⟩;refine⟨⟨⟨⟨h1,h2⟩,h3⟩,h4⟩,?_⟩;unfold cM at h5;rw[dJ]at h5;rcases h5 with h5 | h5
  ·
   left
   unfold iF;cases hv:p.vec[r.toNat]? with
   | none=>rw[hv]at h5;simp[bG]at h5
   | some m=>rw[hv]at h5;simp[bG]at h5;simp;omega
  ·
   right;rw[uk,Int.toNat_of_nonneg h1]at h5;exact h5
def ck (a b:aL):Bool:=(List.range 16).all fun r=>decide (ed (aN a r) (aN b r)=[])
theorem yI {a b:aL}:ck a b=true↔Bx a b:=by
 rw[u3];unfold ck;rw[List.all_eq_true];constructor
 ·
  intro h r hr;simpa using h r (List.mem_range.2 hr)
 ·
  intro h r hr;simpa using h r (List.mem_range.1 hr)
def l0 (l:List gw):aL:=hJ ⟨[],l.map fun d=>⟨d.rep,d.num,d.num⟩⟩
def aV.dot (e:aV):gw:=⟨e.rep,e.num⟩
def gr (x y:Int):Int:=if x<y then -1 else if y<x then 1 else 0
def cu:List Int→Int
 | []=>0
 | a::l=>if a=0 then cu l else a
def iN (s t:aO):Int:=cu [gr s.rep t.rep,gr s.lo t.lo,gr s.hi t.hi]
def dj:List aO→List aO→Int
 | [],[]=>0
 | [],_::_=>-1
 | _::_,[]=>1
 | s::l,t::m=>if iN s t=0 then dj l m else iN s t
def ay (v:List Int)(r:Nat):Int:=match v[r]? with | some x=>x | none=>0
def rS (a b:aL):Int:=cu ((List.range 16).map (fun r=>gr (ay a.vec r) (ay b.vec r))++[dj a.ab b.ab])
def pG (a b:aL):Int:=rS (hJ a) (hJ b)
theorem eG {x y:Int}:gr x y=0↔x=y:=by unfold gr;split<;>(try split)<;>omega
theorem cg (l m:List Int):cu (l++m)=if cu l=0 then cu m else cu l:=by
 induction l with
 | nil=>simp[cu]
 | cons a l ih =>
   rw[List.cons_append,cu,cu,ih]
   by_cases ha:a=0
   ·
    rw[if_pos ha,if_pos ha]
   ·
    rw[if_neg ha,if_neg ha,if_neg ha]
def iv (x:Int):Value:=.int .i64 x
def gW (r:bo):List Value:=[.int .i64 r.1,.int .i64 r.2]
def gx (s:aO):List Value:=[.int .i64 s.rep,.int .i64 s.lo,.int .i64 s.hi]
def pA (d:gw):List Value:=[.int .i64 d.rep,.int .i64 d.num]
def mC (e:aV):List Value:=[.int .i64 e.rep,.int .i64 e.num,.string e.cy,.int .i64 e.p4]
structure PL where
 va:Option Addr
 vc:Nat
 ca:Option Addr
 cc:Nat
 d:aL
abbrev j0 (w:World)(A:Option Addr)(c:Nat)(xs:List Int):Prop:=Rd w 1 (.slice A xs.length c) xs.length (xs.map (Value.int .i64))
abbrev gK (w:World)(A:Option Addr)(c:Nat)(xs:List aO):Prop:=Rd w 3 (.slice A xs.length c) xs.length (xs.flatMap gx)
abbrev j8 (w:World)(A:Option Addr)(c:Nat)(xs:List bo):Prop:=Rd w 2 (.slice A xs.length c) xs.length (xs.flatMap gW)
abbrev fI (w:World)(A:Option Addr)(c:Nat)(xs:List aV):Prop:=Rd w 4 (.slice A xs.length c) xs.length (xs.flatMap mC)
abbrev GR (w:World)(A:Option Addr)(c:Nat)(xs:List gw):Prop:=Rd w 2 (.slice A xs.length c) xs.length (xs.flatMap pA)
abbrev cI (e:Nat)(A:Option Addr)(c:Nat)(xs:List Int):As:=row e 1 (.slice A xs.length c) xs.length (xs.map (Value.int .i64))
abbrev bK (e:Nat)(A:Option Addr)(c:Nat)(xs:List aO):As:=row e 3 (.slice A xs.length c) xs.length (xs.flatMap gx)
abbrev eX (e:Nat)(A:Option Addr)(c:Nat)(xs:List bo):As:=row e 2 (.slice A xs.length c) xs.length (xs.flatMap gW)
abbrev iY (e:Nat)(A:Option Addr)(c:Nat)(xs:List aV):As:=row e 4 (.slice A xs.length c) xs.length (xs.flatMap mC)
abbrev Ip (e:Nat)(A:Option Addr)(c:Nat)(xs:List gw):As:=row e 2 (.slice A xs.length c) xs.length (xs.flatMap pA)
theorem oq {α:Type}{enc:α→List Value}{k:Nat}(hk:∀x,(enc x).length=k):∀xs:List α,(xs.flatMap enc).length=xs.length * k
 | []=>by simp
 | x::xs=>by simp[oq hk xs,hk,Nat.add_mul,Nat.add_comm]
theorem js {α:Type}{enc:α→List Value}{k:Nat}(hk:∀x,(enc x).length=k):∀ {xs:List α} {i:Nat} {x:α},xs[i]?=some x→∀j u,(enc x)[j]?=some u→(xs.flatMap enc)[i * k+j]?=some u
 | [],i,x,h,_,_,_=>by simp at h
 | y :: xs, 0, x, h, j, u, hj => by
   simp at h;subst h;have:=(List.getElem?_eq_some_iff.1 hj).1;rw[List.flatMap_cons,List.getElem?_append_left (by omega)];simpa using hj
 | y :: xs, i + 1, x, h, j, u, hj => by
   rw[List.flatMap_cons,List.getElem?_append_right (by rw[hk];rw[Nat.add_mul];omega),hk,show (i+1) * k+j-k=i * k+j from by rw[Nat.add_mul];omega];exact js hk (by simpa using h) j u hj
theorem uu (r:bo):(gW r).length=2:=rfl
theorem yR (r:aO):(gx r).length=3:=rfl
theorem ui (r:gw):(pA r).length=2:=rfl
theorem Fa (r:aV):(mC r).length=4:=rfl
theorem eJ {xs:List bo}{i:Nat}{x:bo}(h:xs[i]?=some x):∀j u,(gW x)[j]?=some u→(xs.flatMap gW)[i * 2+j]?=some u:=js uu h
theorem dC {xs:List aO}{i:Nat}{x:aO}(h:xs[i]?=some x):∀j u,(gx x)[j]?=some u→(xs.flatMap gx)[i * 3+j]?=some u:=js yR h
theorem sX {xs:List gw}{i:Nat}{x:gw}(h:xs[i]?=some x):∀j u,(pA x)[j]?=some u→(xs.flatMap pA)[i * 2+j]?=some u:=js ui h
theorem cP {xs:List aV}{i:Nat}{x:aV}(h:xs[i]?=some x):∀j u,(mC x)[j]?=some u→(xs.flatMap mC)[i * 4+j]?=some u:=js Fa h
theorem DI {α:Type}{enc:α→List Value}(h1:∀x,∀u∈enc x,u.oneCell'=true)(xs:List α):∀u∈xs.flatMap enc,u.oneCell'=true:=fun u hu=>by
 obtain⟨x,_,hx⟩:=List.mem_flatMap.1 hu;exact h1 x u hx
theorem qe (x:bo):∀u∈gW x,u.oneCell'=true:=fun u hu=>by simp[gW]at hu;rcases hu with rfl | rfl<;>rfl
theorem y1 (xs:List Int):∀u∈xs.map (Value.int .i64),u.oneCell'=true:=fun u hu=>by
 obtain⟨x,_,rfl⟩:=List.mem_map.1 hu
 rfl
structure PL.ok (w:World)(p:PL):Prop where
 vec:j0 w p.va p.vc p.d.vec
 ab:gK w p.ca p.cc p.d.ab
theorem PL.ok.sat {W w:World}{L:List As}{p:PL}(h:p.ok W)(s:Sat W w L):p.ok w:=⟨h.vec.sat s,h.ab.sat s⟩
structure RL where
 cy:ByteArray
 p:PL
def RL.d (r:RL):bW:=⟨r.cy,r.p.d⟩
def iX (r:RL):List Value:=[.string r.cy,.slice r.p.va r.p.d.vec.length r.p.vc,.slice r.p.ca r.p.d.ab.length r.p.cc]
theorem tW (r:RL):(iX r).length=3:=rfl
theorem cR {xs:List RL}{i:Nat}{x:RL}(h:xs[i]?=some x):∀j u,(iX x)[j]?=some u→(xs.flatMap iX)[i * 3+j]?=some u:=js tW h
abbrev fO (w:World)(A:Option Addr)(c:Nat)(rs:List RL):Prop:=Rd w 3 (.slice A rs.length c) rs.length (rs.flatMap iX)
def ot (p:PL):List Value:=[.slice p.va p.d.vec.length p.vc,.slice p.ca p.d.ab.length p.cc]
theorem Ez (r:PL):(ot r).length=2:=rfl
theorem lj {xs:List PL}{i:Nat}{x:PL}(h:xs[i]?=some x):∀j u,(ot x)[j]?=some u→(xs.flatMap ot)[i * 2+j]?=some u:=js Ez h
abbrev AS (w:World)(A:Option Addr)(c:Nat)(ps:List PL):Prop:=Rd w 2 (.slice A ps.length c) ps.length (ps.flatMap ot)
structure jq where
 a:Option Addr
 c:Nat
 rs:List RL
def jq.d (r:jq):List bW:=r.rs.map RL.d
structure jq.ok (w:World)(r:jq):Prop where
 top:fO w r.a r.c r.rs
 each:∀x∈r.rs,x.p.ok w
theorem jq.ok.sat {W w:World}{L:List As}{r:jq}(h:r.ok W)(s:Sat W w L):r.ok w:=⟨h.top.sat s,fun x hx=>(h.each x hx).sat s⟩
structure H7 where
 a:Option Addr
 c:Nat
 es:List aV
def H7.ok (w:World)(e:H7):Prop:=fI w e.a e.c e.es
theorem H7.ok.sat {W w:World}{L:List As}{e:H7}(h:e.ok W)(s:Sat W w L):e.ok w:=Rd.sat h s
structure SL where
 e:H7
 p:PL
 r:jq
def SL.d (s:SL):jP:=⟨s.e.es,s.p.d,s.r.d⟩
def nY (s:SL):List Value:=[.slice s.e.a s.e.es.length s.e.c,.slice s.p.va s.p.d.vec.length s.p.vc,.slice s.p.ca s.p.d.ab.length s.p.cc,.slice s.r.a s.r.rs.length s.r.c]
structure SL.ok (w:World)(s:SL):Prop where
 e:s.e.ok w
 p:s.p.ok w
 r:s.r.ok w
theorem SL.ok.sat {W w:World}{L:List As}{s:SL}(h:s.ok W)(t:Sat W w L):s.ok w:=⟨h.e.sat t,h.p.sat t,h.r.sat t⟩
def PL.ch (ei es:Nat)(p:PL):As:=star (cI ei p.va p.vc p.d.vec) (bK es p.ca p.cc p.d.ab)
theorem PL.vq {W w:World}{L:List As}{ei es:Nat}{p:PL}(s:Sat W w (p.ch ei es::L)):p.ok w:=⟨s.open_.rd,s.open_.qV.rd⟩
theorem PL.EE {W w:World}{L:List As}{ei es:Nat}{A B:Option Addr}{c c':Nat}{d:aL}(s:Sat W w (cI ei A c d.vec::bK es B c' d.ab::L)):Sat W w ((⟨A,c,B,c',d⟩:PL).ch ei es::L):=s.shut
def jq.ch (er ei es:Nat)(r:jq):As:=star (row er 3 (.slice r.a r.rs.length r.c) r.rs.length (r.rs.flatMap iX)) (bt (r.rs.map fun x=>x.p.ch ei es))
theorem uY {W w:World}{L:List As}{ei es:Nat}{rs:List RL}(s:Sat W w (bt (rs.map fun x=>x.p.ch ei es)::L)):∀x∈rs,x.p.ok w:=fun x hx=>by
 obtain⟨i,hi⟩:=List.mem_iff_getElem?.1 hx;have h:(rs.map fun x=>x.p.ch ei es)[i]?=some (x.p.ch ei es):=by rw[List.getElem?_map,hi];rfl
 exact PL.vq (s.dN h)
theorem jq.vq {W w:World}{L:List As}{er ei es:Nat}{r:jq}(s:Sat W w (r.ch er ei es::L)):r.ok w:=⟨s.open_.rd,uY s.open_.qV⟩
structure Loc (α:Type) where
 a:Option Addr
 c:Nat
 xs:List α
def rN {α:Type}(l:Loc α):List Value:=[.slice l.a l.xs.length l.c]
theorem DN {α:Type}(l:Loc α):(rN l).length=1:=rfl
theorem Fv {α:Type}{xs:List (Loc α)}{i:Nat}{x:Loc α}(h:xs[i]?=some x):∀j u,(rN x)[j]?=some u→(xs.flatMap rN)[i * 1+j]?=some u:=js DN h
def Loc.runs (w:World)(l:Loc bo):Prop:=j8 w l.a l.c l.xs
theorem p7 (a b:List bo):fo (a++b)=fo a++fo b:=by simp[fo]
theorem nw {a:List bo}{r c:bo}(h:gS r=some c):fo (a++[r])=fo a++[c]:=by rw[p7];simp[fo,h]
theorem nF {a:List bo}{r:bo}(h:gS r=none):fo (a++[r])=fo a:=by rw[p7];simp[fo,h]
theorem iU (l:List bo):(fo l).length≤l.length:=List.length_filterMap_le _ _
theorem D0 {xs:List bo}{i:Nat}{x:bo}(h:xs[i]?=some x)(v:Int):(xs.flatMap gW).set (i * 2+1) (.int .i64 v)=(xs.set i (x.1,v)).flatMap gW:=by
 induction xs generalizing i with
 | nil=>simp at h
 | cons y xs ih =>
   cases i with
   | zero=>simp at h;subst h;rfl
   | succ i =>
     rw[List.flatMap_cons,List.set_append_right _ _ (by simp[gW];omega)];rw[show (i+1) * 2+1-(gW y).length=i * 2+1 from by simp[gW];omega,ih (by simpa using h)]
     rfl
theorem EW {xs:List bo}{x r:bo}(h:xs[xs.length-1]?=some x)(h0:0<xs.length)(hr:r.1≤x.2+1):gg xs r=xs.set (xs.length-1) (x.1,max x.2 r.2):=by
 rcases List.eq_nil_or_concat xs with rfl | ⟨o,y,rfl⟩
 ·
  simp at h0
 ·
  rw[List.concat_eq_append]at *;simp at h;subst h;rw[mG,if_pos hr];simp
theorem wk {xs:List bo}{r:bo}(h:∀x,xs[xs.length-1]?=some x→0<xs.length→¬r.1≤x.2+1):gg xs r=xs++[r]:=by
 rcases List.eq_nil_or_concat xs with rfl | ⟨o,y,rfl⟩
 ·
  rfl
 ·
  rw[List.concat_eq_append]at *;rw[mG,if_neg (h y (by simp) (by simp))]
theorem yO (xs:List bo)(r:bo):(gg xs r).length≤xs.length+1:=by
 rcases List.eq_nil_or_concat xs with rfl | ⟨o,y,rfl⟩
 ·
  simp[gg]
 ·
  rw[List.concat_eq_append,mG];split<;>simp
theorem om:∀(l out:List bo),(l.foldl gg out).length≤out.length+l.length
 | [],out=>by simp
 | r :: l, out => by
   have:=om l (gg out r);have:=yO out r;rw[List.foldl_cons,List.length_cons];omega
theorem Ck {raw ys:List bo}(hp:ys.Perm (fo raw))(hs:ys.Pairwise (fun a b=>a.1≤b.1)):ys.foldl gg []=ax raw:=by
 obtain⟨h1,h2⟩:=py ys [] trivial (fun r hr=>nX r (hp.mem_iff.1 hr)) (fun s hs=>by cases hs) hs;refine og h1 fun n=>?_;rw[h2,←wg];constructor
 ·
  rintro (h | ⟨r,hr,h⟩)
  ·
   simp[bG]at h
  ·
   exact⟨r,hp.mem_iff.1 hr,h⟩
 ·
  rintro ⟨r,hr,h⟩;exact .inr ⟨r,hp.mem_iff.2 hr,h⟩
theorem Cz {raw ys:List bo}(hp:ys.Perm (fo raw))(hs:ys.Pairwise (fun a b=>a.1≤b.1))(k:Nat):can ((ys.take k).foldl gg [])∧∀s∈(ys.take k).foldl gg [],∀r∈ys.drop k,s.1≤r.1:=by
 have hok:∀r∈ys,1≤r.1∧r.1≤r.2∧r.2≤gL:=fun r hr=>nX r (hp.mem_iff.1 hr)
 have hsk:(ys.take k).Pairwise (fun a b=>a.1≤b.1):=hs.sublist (List.take_sublist k ys);obtain⟨h1,h2⟩:=py (ys.take k) [] trivial (fun r hr=>hok r (List.mem_of_mem_take hr)) (fun s hs=>by cases hs) hsk;refine⟨h1,fun s hs2 r hr=>?_⟩
 have hcr:∀a∈ys.take k,∀b∈ys.drop k,a.1≤b.1:=by
  have:=hs;rw[←List.take_append_drop k ys,List.pairwise_append]at this;exact this.2.2
 have hm:bG ((ys.take k).foldl gg []) s.1:=⟨s,hs2,Int.le_refl _,(h1.each s hs2).2.1⟩;rcases (h2 s.1).1 hm with h | ⟨t,ht,h3,h4⟩
 ·
  simp[bG]at h
 ·
  -- s begins where one of those that were added begins,or behind
  have:∀(l out:List bo),(∀x∈out,∀r∈ys.drop k,x.1≤r.1)→(∀x∈l,∀r∈ys.drop k,x.1≤r.1)→∀x∈l.foldl gg out,∀r∈ys.drop k,x.1≤r.1:=by
   intro l
   induction l with
   | nil=>intro out ho _ x hx;exact ho x hx
   | cons y l ih =>
     intro out ho hl x hx;refine ih (gg out y) (fun z hz q hq=>?_) (fun z hz=>hl z (by simp[hz])) x hx;rcases List.eq_nil_or_concat out with rfl | ⟨o,v,rfl⟩
     ·
      simp[gg]at hz;subst hz;exact hl _ (by simp) q hq
     ·
      rw[List.concat_eq_append,mG]at hz
      split at hz
      ·
       rcases List.mem_append.1 hz with hz | hz
       ·
        exact ho z (by simp[hz]) q hq
       ·
        simp at hz;subst hz;exact ho v (by simp) q hq
      ·
       rcases List.mem_append.1 hz with hz | hz
       ·
        exact ho z (by simpa using hz) q hq
       ·
        simp at hz;subst hz;exact hl _ (by simp) q hq
  exact this (ys.take k) [] (fun x hx=>by cases hx) hcr s hs2 r hr
theorem cD (l:List bo):(ax l).length≤l.length:=by
 have hi:∀(l:List bo) (r:bo),(pO r l).length≤l.length+1:=by
  intro l
  induction l with
  | nil=>intro r;simp[pO]
  | cons x l ih =>
    intro r;rw[pO]
    split
    ·
     simp
    ·
     split
     ·
      have:=ih r;simp;omega
     ·
      have:=ih (min r.1 x.1,max r.2 x.2);simp;omega
 induction l with
 | nil=>simp[ax]
 | cons r l ih =>
   have e:ax (r::l)=match gS r with | some c=>pO c (ax l) | none=>ax l:=rfl
   rw[e];cases gS r with
   | none=>simp only;simp;omega
   | some c=>simp only;have:=hi (ax l) c;simp;omega
theorem iH {W w:World}{L:List As}{e sz n c:Nat}{A:Option Addr}{cs cs':List Value}{m:Nat}(h:Sat W w (row e sz (.slice A n c) n cs::L))(hn:n=m)(hc:cs=cs'):Sat W w (row e sz (.slice A m c) m cs'::L):=by subst hn hc;exact h
theorem pX {A:Option Addr}{n m c:Nat}(h:n=m):Ending.returned (.slice A n c)=.returned (.slice A m c):=by rw[h]
theorem fz {W w:World}{L:List As}{A:As}(s:Sat W w (A::L)):Sat W w [A]:=Sat.cZ (M:=[A]) (L:=L) s [A]
theorem oO {W w:World}{L:List As}{A B:As}(s:Sat W w (A::B::L)):Sat W w [A,B]:=Sat.cZ (M:=[A,B]) (L:=L) s [A,B]
theorem rb {W w:World}{L:List As}{A B C:As}(s:Sat W w (A::B::C::L)):Sat W w [A,B,C]:=Sat.cZ (M:=[A,B,C]) (L:=L) s [A,B,C]
theorem Bg {W w:World}{L:List As}{A B C D:As}(s:Sat W w (A::B::C::D::L)):Sat W w [A,B,C,D]:=Sat.cZ (M:=[A,B,C,D]) (L:=L) s [A,B,C,D]
theorem wL {α:Type}{enc:α→List Value}{k:Nat}(hk:∀x,(enc x).length=k):∀(xs:List α) (i:Nat),(xs.flatMap enc).drop (i * k)=(xs.drop i).flatMap enc
 | xs,0=>by simp
 | [],i+1=>by simp
 | x :: xs, i + 1 => by
   rw[List.flatMap_cons,List.drop_append,List.drop_of_length_le (by rw[hk,Nat.add_mul];omega),List.nil_append,hk,show (i+1) * k-k=i * k from by rw[Nat.add_mul];omega,wL hk xs i]
   rfl
theorem F2 {w:World}{A:Option Addr}{c:Nat}{ns:List bo}(h:j8 w A c ns)(h1:1≤ns.length):Rd w 2 (.slice (ja A c 2 1) (ns.length-1) (c-1)) (ns.length-1) ((ns.drop 1).flatMap gW):=by
 have h2:=Rd.Gr h 1 h1;rwa[wL uu ns 1]at h2
theorem pY:∀(l:List bo) (next:Int),(lu next l).length≤l.length+1
 | [],next=>by unfold lu;split<;>simp
 | r :: l, next => by
   have:=pY l (r.2+1);rw[lu,List.length_append,List.length_cons]
   split<;>simp<;>omega
theorem lL (l:List bo):(aT l).2.length≤l.length:=by
 cases l with
 | nil=>simp[aT]
 | cons r l=>rw[gf];split<;>simp
end Go.Proofs.YtkjabaihpkbfhaaGreat.Wk
namespace Go.Proofs.YtkjabaihpkbfhaaGreat.Wk
open Go Go.RowKit Go.Proofs.YtkjabaihpkbfhaaGreat Go.Proofs.YtkjabaihpkbfhaaGreat.K Go.Proofs.YtkjabaihpkbfhaaGreat.T
theorem AZ (W:World)(r:bo)  : Calls Tryz.prog 285 #[.agg #[.int .i64 r.1,.int .i64 r.2]] W fun e w'=>e=.returned (.tuple #[.agg #[.int .i64 (max r.1 1),.int .i64 (min r.2 1000000000)],.bool (decide (max r.1 1≤min r.2 1000000000))])∧Sat W w' []:=by
 refine enter Tryz.func285 rfl rfl rfl (.cons (i:=0) rfl .nil) ?_;have hS:=Sat.start W;refine uC 2 ?_;refine uB rfl hS ?_;clear hS;intro b1 w hS;refine uN o7 hS ?_;clear hS;intro b2 w hS;refine uO 5 ?_;refine u1 0 (aa rfl gH) ?_;refine u1 0 (ld rfl aQ) ?_;refine u1 0 (tJ rfl rfl) ?_;refine u1 0 (aa rfl dU) ?_;refine u1 0 (ld rfl aQ) ?_;refine u1 0 (x4 rfl rfl) ?_;refine u1 0 (aa rfl gH) ?_;intro a hA;refine mj (cs':=[_,_]) hA rfl rfl aQ fQ rfl (hS.p 1) rfl rfl ?_;clear hS;intro w hS;refine o1 0 hA (aa (hA.ev rfl) dU) ?_;clear hA a;intro a hA;refine mj (cs':=[_,_]) hA rfl rfl aQ fQ rfl hS rfl rfl ?_;clear hS;intro w hS;refine rO 3 hA ?_;clear hA a;intro a hA
 refine Hr (fun w'=>∃v,Sat W w' [a8 b1 (.cells #[.int .i64 (max r.1 1),.int .i64 (min r.2 1000000000)] 357),a8 b2 (.cells v 357)]) (by kernel_rfl) ?_;replace hS:=hS.drew;refine K.h1 0 hA pk rfl rfl rfl rfl (by kernel_rfl) (by kernel_rfl) (by kernel_rfl) (by exact⟨_,hS⟩) (fun w hT=>let ⟨v,hS⟩:=hT;(ad (cs:=[_,_]) (hA.ev rfl) lM cS (by exact hS.ag (xs:=[_,_]) rfl))) ?_;clear hA a;intro a hA;refine K.h1 1 hA pk rfl rfl rfl rfl (by kernel_rfl) (by kernel_rfl) (by kernel_rfl) (by exact⟨_,hS⟩) (fun w hT=>let ⟨v,hS⟩:=hT;(aa (hA.ev rfl) gH)) ?_;clear hA a;intro a hA;refine K.h1 2 hA pk rfl rfl rfl rfl (by kernel_rfl) (by kernel_rfl) (by kernel_rfl) (by exact⟨_,hS⟩) (fun w hT=>let ⟨v,hS⟩:=hT;(aq (hA.ev rfl) aQ (by exact hS.cell rfl))) ?_;clear hA a;intro a hA
 refine K.h1 3 hA pk rfl rfl rfl rfl (by kernel_rfl) (by kernel_rfl) (by kernel_rfl) (by exact⟨_,hS⟩) (fun w hT=>let ⟨v,hS⟩:=hT;(aa (hA.ev rfl) dU)) ?_;clear hA a;intro a hA;refine K.h1 4 hA pk rfl rfl rfl rfl (by kernel_rfl) (by kernel_rfl) (by kernel_rfl) (by exact⟨_,hS⟩) (fun w hT=>let ⟨v,hS⟩:=hT;(aq (hA.ev rfl) aQ (by exact hS.cell rfl))) ?_;clear hA a;intro a hA;refine K.h1 5 hA pk rfl rfl rfl rfl (by kernel_rfl) (by kernel_rfl) (by kernel_rfl) (by exact⟨_,hS⟩) (fun w hT=>let ⟨v,hS⟩:=hT;(du (hA.ev rfl) (hA.ev rfl))) ?_;clear hA a;intro a hA;refine Lr 6 (by kernel_rfl) ?_;refine dq (vs:=[_,_]) (cs':=[_,_]) hA rfl rfl rfl cS (by simp[Value.oneCell']) (hS.p 1) rfl rfl ?_;clear hS;intro w hS;refine⟨(by exact⟨_,hS.p 1⟩),?_⟩
 refine K.h1 7 hA pk rfl rfl rfl rfl (by kernel_rfl) (by kernel_rfl) (by kernel_rfl) (by exact⟨_,hS.p 1⟩) (fun w hT=>let ⟨v,hS⟩:=hT;(qk (hA.ev rfl))) ?_;clear hA a;intro a hA;refine wpAnyH_done (by kernel_rfl) ?_ _;refine rE 2 hA ?_;clear hA a;intro a hA;refine ez hA rfl (dg (cs:=[_,_]) hA rfl lM cS (by exact hS.ag (xs:=[_,_]) rfl)) (dn hA rfl) ?_;exact⟨rfl,hS.nil⟩
theorem Dd (W w:World)(L:List As)(A:Option Addr)(c:Nat)(xs:List bo)(r:bo)(hS:Sat W w (eX 357 A c xs::L))(hx2:∀x∈xs,0≤x.2∧x.2≤1000000000)(hl:xs.length≤1000000000000):Calls Tryz.prog 288 #[.slice A xs.length c,.agg #[.int .i64 r.1,.int .i64 r.2]] w fun e w'=>∃A' c',e=.returned (.slice A' (gg xs r).length c')∧Sat W w' (eX 357 A' c' (gg xs r)::L):=by
 refine enter Tryz.func288 rfl rfl rfl (.cons (i:=0) rfl (.cons (i:=1) rfl .nil)) ?_;refine uC 2 ?_;refine uB rfl hS ?_;clear hS;intro b3 w hS;refine uO 7 ?_;refine u1 4 (ar rfl bU) ?_;intro a hA;refine cF (fun w'=>Sat _ w' _) (by kernel_rfl) (by kernel_rfl) hS.drew ?_;refine rQ 1 hA ?_;clear hA a;intro a hA;refine K.se hA rfl rfl rfl (fun w hS=>(dv (hA.ev rfl) (hA.ev rfl))) ?_ ?_
 ·clear hA a;intro h9;refine uQ 1 ?_;refine br 0 (fun w hS=>(aa rfl gH)) ?_;refine br 2 (fun w hS=>(ld rfl aQ)) ?_;refine br 0 (fun w hS=>(aZ rfl rfl (by omega) (by omega))) ?_;obtain⟨A_p,rfl⟩:∃q,A=some q:=(hS.p 1).rd.av (by omega);obtain⟨x,hx⟩:∃zz_,xs[((xs.length:Int)-1).toNat]?=some zz_:=⟨_,List.getElem?_eq_getElem (by omega)⟩;have hxb:=hx2 x (List.mem_of_getElem? hx);refine br 0 (fun w hS=>(aj rfl rfl bU cS (by omega) (by omega))) ?_;refine br 0 (fun w hS=>(aA rfl dU)) ?_;refine br 0 (fun w hS=>(aq rfl aQ (bJ (hS.p 1).rd (eJ hx 1 _ rfl)))) ?_;refine br 0 (fun w hS=>(ah rfl rfl (by omega) (by omega))) ?_;intro a hA;refine K.oY hA (ao hA rfl rfl rfl) rfl rfl (fun w hS=>(du (hA.ev rfl) (hA.ev rfl))) ?_ ?_
  ·clear hA a;intro h20;refine uQ 1 ?_;intro a hA;refine wpQuiet_nil ?_;clear hS;intro w hS;refine rE 3 hA ?_;clear hA a;intro a hA;refine fj (l1:=[_,_,_,_,_,_,_,_,_,_,_,_,_,_]) (l2:=[_]) rfl (by kernel_rfl) (by kernel_rfl) ?_;replace hS:=hS.drew;refine rT 2 hA ?_;clear hA a;refine eO 2 (aZ rfl rfl (by omega) (by omega)) ?_;refine eO 0 (aZ rfl rfl (by omega) (by omega)) ?_;refine eO 0 (aj rfl rfl bU cS (by omega) (by omega)) ?_;refine eO 0 (aA rfl dU) ?_;refine eO 0 (aq rfl aQ (bJ (hS.p 1).rd (eJ hx 1 _ rfl))) ?_;refine eO 0 (aa rfl dU) ?_;refine eO 0 (ld rfl aQ) ?_;refine eO 0 (tJ rfl rfl) ?_;refine eO 0 (aj rfl rfl bU cS (by omega) (by omega)) ?_;refine eO 0 (aA rfl dU) ?_;intro a hA;refine wpStill_nil ?_
   refine Lt (((xs.length:Int)-1).toNat * 2+1) hA rfl (add_add _ _ _) rfl aQ fQ rfl (hS.p 1) (by rw[oq uu];omega) ?_;clear hS;intro w hS;refine rO 2 hA ?_;clear hA a;intro a hA;replace hA:=hA.kp [0,3,4] rfl;refine rC 8 hA ?_;clear hA a;refine aX ?_;have ex:xs[xs.length-1]?=some x:=by rw[←hx];congr 1;omega
   have es:=EW (r:=r) ex (by omega) (by omega);have ei:((xs.length:Int)-1).toNat=xs.length-1:=by omega
   rw[ei,D0 ex]at hS;rw[es];exact⟨_,_,pX List.length_set.symm,iH (hS.p 1).drop List.length_set.symm rfl⟩
  ·clear hA a;intro h20;refine uQ 1 ?_;intro a hA;refine wpQuiet_nil ?_;clear hS;intro w hS;refine rE 7 hA ?_;clear hA a;refine u1 0 (ad (cs:=[_,_]) rfl lM cS (by exact hS.ag (xs:=[_,_]) rfl)) ?_;intro a hA;refine ji (vss:=[[_,_]]) hA rfl rfl bU iy rfl rfl rfl (by simp) rfl hS ?_;clear hA a hS;intro A39 w hS;intro a hA;refine dy hA rfl rfl rfl bU iy rfl (hS.p 2) (hS.rd.src bU (qe r)) (by omega) (by omega) ?_;clear hA a hS;intro A40 c40 w hc40 hS;refine uO 4 ?_;refine aX ?_;have ex:xs[xs.length-1]?=some x:=by rw[←hx];congr 1;omega
   have es:gg xs r=xs++[r]:=wk fun y hy h0=>by rw[ex]at hy;cases hy;omega
   rw[es];exact⟨_,_,pX (by simp),iH ((hS.p 2).drop.p 1).drop (by simp) (by simp[gW])⟩
 ·clear hA a;intro h9;refine uQ 12 ?_;intro a hA;refine wpQuiet_nil ?_;clear hS;intro w hS;refine rE 7 hA ?_;clear hA a;refine u1 0 (ad (cs:=[_,_]) rfl lM cS (by exact hS.ag (xs:=[_,_]) rfl)) ?_;intro a hA;refine ji (vss:=[[_,_]]) hA rfl rfl bU iy rfl rfl rfl (by simp) rfl hS ?_;clear hA a hS;intro A39 w hS;intro a hA;refine dy hA rfl rfl rfl bU iy rfl (hS.p 2) (hS.rd.src bU (qe r)) (by omega) (by omega) ?_;clear hA a hS;intro A40 c40 w hc40 hS;refine uO 4 ?_;refine aX ?_;have es:gg xs r=xs++[r]:=wk fun y hy h0=>by omega
  rw[es];exact⟨_,_,pX (by simp),iH ((hS.p 2).drop.p 1).drop (by simp) (by simp[gW])⟩
theorem xi (W:World)(A:Option Addr)(n c:Nat)(xs:List bo)(hR:Rd W 2 (.slice A n c) n (xs.flatMap gW))(hn:n=xs.length)(hl:xs.length≤1000000000000):Calls Tryz.prog 273 #[.slice A n c] W fun e w'=>∃A' c',e=.returned (.slice A' xs.length c')∧Sat W w' [eX 357 A' c' xs]:=by
 refine enter Tryz.func273 rfl rfl rfl (.cons (i:=0) rfl .nil) ?_;have hS:=Sat.start W;refine uC 9 ?_;refine nb 0 0 (AI rfl rfl bU) ?_ ?_
 ·intro h4;refine uO 10 ?_;refine aX ?_;obtain rfl:A=none:=by simpa using h4
  obtain⟨h0,_⟩:=hR.nil;obtain rfl:=List.eq_nil_of_length_eq_zero (by omega:xs.length=0);exact⟨none,0,rfl,hS.aY _ _⟩
 ·intro h4;refine uO 7 ?_;intro a hA;refine F6 hA rfl bU iy hS ?_;clear hA a hS;intro A5 w hS;refine uO 1 ?_;intro a hA;refine dy hA rfl rfl rfl bU iy rfl hS ((hR.sat hS).src bU (DI qe xs)) (by omega) (by omega) ?_;clear hA a hS;intro A7 c7 w hc7 hS;refine uO 4 ?_;refine aX ?_;simp only[Nat.zero_add,List.nil_append]at hS ⊢;exact⟨_,_,pX hn,iH hS hn rfl⟩
end Go.Proofs.YtkjabaihpkbfhaaGreat.Wk
namespace Go.Proofs.YtkjabaihpkbfhaaGreat.K
open Go Go.RowKit Go.Proofs
theorem tq {α:Type}[Inhabited α]{enc:α→List Value}{k:Nat}(hk:∀x,(enc x).length=k)(d:Array α):(Go.Sort.flatK enc k d).toList=d.toList.flatMap enc:=by
 have key:∀l:List α,(Go.Sort.flatK enc k l.toArray).toList=l.flatMap enc:=by
  intro l
  have hl:∀l:List α,(l.flatMap enc).length=l.length * k:=by
   intro l
   induction l with
   | nil=>simp
   | cons x l ih=>rw[List.flatMap_cons,List.length_append,ih,hk,List.length_cons,Nat.add_mul];omega
  refine List.ext_getElem (by rw[hl];simp) fun i h1 h2=>?_;have hi:i<l.length * k:=by rw[hl]at h2;exact h2
  have k0 : 0 < k := by rcases Nat.eq_zero_or_pos k with h | h; · subst h; simp at hi
                        ·
                         exact h
  have e1:(Go.Sort.flatK enc k l.toArray).toList[i]=(enc l.toArray[i / k]!)[i % k]!:=by
   have h3:=Go.Sort.get_flatK enc k l.toArray i (by simpa using hi);rw[getElem!_pos _ i (by simpa using hi)]at h3;rw[←h3];simp
  rw[e1];have hq:i / k<l.length:=by rw[Nat.div_lt_iff_lt_mul k0];exact hi
  have hm:i % k<k:=Nat.mod_lt _ k0
  have at_:∀(l:List α) (q j:Nat) (hq:q<l.length) (hj:j<k),(l.flatMap enc)[q * k+j]?=some ((enc l[q])[j]'(by rw[hk];exact hj)):=by
   intro l
   induction l with
   | nil=>intro q j hq;simp at hq
   | cons x l ih =>
     intro q j hq hj;cases q with
     | zero=>rw[List.flatMap_cons,List.getElem?_append_left (by rw[hk];omega)];simp[hk,hj]
     | succ q =>
       rw[List.flatMap_cons,List.getElem?_append_right (by rw[hk,Nat.add_mul];omega),hk,show (q+1) * k+j-k=q * k+j from by rw[Nat.add_mul];omega];exact ih q j (by simpa using hq) hj
  have h4:=at_ l (i / k) (i % k) hq hm;have hdm:i / k * k+i % k=i:=by rw[Nat.mul_comm];exact Nat.div_add_mod i k
  rw[hdm,List.getElem?_eq_getElem h2]at h4;have h5:=Option.some.inj h4;rw[h5];have h6:l.toArray[i / k]! =l[i / k]:=by rw[getElem!_pos _ _ (by simpa using hq)];simp
  rw[h6,getElem!_pos _ _ (by rw[hk];exact hm)]
 have:=key d.toList;simpa using this
theorem Ct {α:Type}[Inhabited α]{W w:World}{L:List As}{enc:α→List Value}{e k b n c:Nat}{xs:List α}(hk:∀x,(enc x).length=k)(s:Sat W w (row e k (.slice (some ⟨b,0,none⟩) n c) n (xs.flatMap enc)::L))(hn:n=xs.length) :
 Go.Sort.HoldsK enc k w b 0 xs.toArray∧W.heap.size≤b∧b<w.heap.size:=by
 obtain⟨bl,h,⟨h1,h2,a,s1,s2,q,r⟩,t⟩:=s;rcases q with ⟨hv,_,_⟩ | ⟨b',cap,sp,fr,hv,hnc,hcap,hl,hl2,hfr,hb⟩
 ·
  cases hv
 ·
  cases hv;have S:Sat W w (a8 b (.cells (xs.flatMap enc++sp).toArray e fr)::L):=⟨bl,h,⟨h1,h2,a,s1,s2,hb,r⟩,t⟩;refine⟨fun j hj=>?_,S.block.2,S.lt⟩;rw[Go.Sort.size_flatK]at hj;have hj:j<xs.length * k:=by simpa using hj
  have hlen:(xs.flatMap enc).length=xs.length * k:=by rw[hl,hn]
  have e1:(Go.Sort.flatK enc k xs.toArray)[j]! =(xs.flatMap enc)[j]'(by rw[hlen];exact hj):=by
   have e2:=tq hk xs.toArray;simp only[]at e2;have hj2:j<(Go.Sort.flatK enc k xs.toArray).toList.length:=by simpa using hj
   rw[getElem!_pos _ j (by simpa using hj)];have e3:(Go.Sort.flatK enc k xs.toArray).toList[j]=(xs.flatMap enc)[j]'(by rw[hlen];exact hj):=List.getElem_of_eq e2 hj2;rw[←e3];simp
  rw[e1,Nat.zero_add];have hcap':j<c * k:=by rw[←hl2,List.length_append,hlen];omega
  refine⟨?_,S.w6 hfr hcap'⟩;refine S.pq ?_;simp only[List.getElem?_toArray];rw[List.getElem?_append_left (by rw[hlen];exact hj)];exact List.getElem?_eq_getElem _
theorem xe {F:Array Value}{cs sp:List Value}(h:F.size=cs.length):Go.Sort.putCells id 0 F (cs++sp).toArray=(F.toList++sp).toArray:=by
 refine Array.ext' ?_;refine List.ext_getElem ?_ fun i h1 h2=>?_
 ·
  simp[Go.Sort.putCells,h]
 ·
  simp only[Go.Sort.putCells,Array.toList_mapIdx,List.getElem_mapIdx,Nat.zero_le,true_and,Nat.zero_add,Nat.sub_zero,id]
  by_cases hi:i<F.size
  ·
   rw[if_pos hi,getElem!_pos F i hi];simp[hi]
  ·
   rw[if_neg hi];have:cs.length≤i:=by omega
   have h3:F.toList.length≤i:=by simp;omega
   simp only[List.getElem_append_right h3];simp[List.getElem_append_right this,h]
theorem Sat.sorted {α:Type}[Inhabited α]{W w:World}{L:List As}{enc:α→List Value}{e k b n c m:Nat}{xs:List α}(hk:∀x,(enc x).length=k)(d:Array α)(os:Array Obj)(s:Sat W w (row e k (.slice (some ⟨b,0,none⟩) n c) n (xs.flatMap enc)::L))(hn:n=xs.length)(hd:d.size=xs.length) :
 Sat W (sortWorldK enc k w b 0 m d os) (row e k (.slice (some ⟨b,0,none⟩) n c) n (d.toList.flatMap enc)::L):=by
 have hfl:=tq hk d;obtain⟨bl,h,⟨h1,h2,a,s1,s2,q,r⟩,t⟩:=s;rcases q with ⟨hv,_,_⟩ | ⟨b',cap,sp,fr,hv,hnc,hcap,hl,hl2,hfr,hb⟩
 ·
  cases hv
 ·
  cases hv;have S:Sat W w (a8 b (.cells (xs.flatMap enc++sp).toArray e fr)::L):=⟨bl,h,⟨h1,h2,a,s1,s2,hb,r⟩,t⟩;have hbk:=S.block;have hsz:(Go.Sort.flatK enc k d).size=(xs.flatMap enc).length:=by rw[Go.Sort.size_flatK,hl,hn,hd]
  have hheap:(Go.Sort.putRowK enc k (Go.Sort.ahead w m) b 0 d).heap=w.heap.modify b (Go.Sort.onCells (Go.Sort.putCells id 0 (Go.Sort.flatK enc k d))):=rfl
  have S1:Sat W (Go.Sort.putRowK enc k (Go.Sort.ahead w m) b 0 d) (a8 b (.cells (d.toList.flatMap enc++sp).toArray e fr)::L):=by
   refine S.write ⟨rfl,rfl,rfl,by rw[hheap];simp,fun i hi=>?_⟩ ?_ fun i hi=>?_
   ·
    rw[hheap,Array.getElem?_modify,if_neg (by omega)]
   ·
    rw[hheap,Array.getElem?_modify,if_pos rfl,hbk.1];simp only[Option.map_some,Go.Sort.onCells];rw[xe hsz,hfl]
   ·
    rw[hheap,Array.getElem?_modify,if_neg (by omega)]
  have S2:Sat W (sortWorldK enc k w b 0 m d os) (a8 b (.cells (d.toList.flatMap enc++sp).toArray e fr)::L):=by
   have hlt:=S1.below.size
   have hg:∀i,i<(Go.Sort.putRowK enc k (Go.Sort.ahead w m) b 0 d).heap.size→(sortWorldK enc k w b 0 m d os).heap[i]?=(Go.Sort.putRowK enc k (Go.Sort.ahead w m) b 0 d).heap[i]?:=fun i hi=>by
    show ((Go.Sort.putRowK enc k (Go.Sort.ahead w m) b 0 d).heap++os)[i]?=_;rw[Array.getElem?_append_left hi]
   refine S1.move ⟨rfl,rfl,rfl,?_,fun i hi=>hg i (by omega)⟩ fun i o hi he=>?_
   ·
    show _≤((Go.Sort.putRowK enc k (Go.Sort.ahead w m) b 0 d).heap++os).size;rw[Array.size_append];omega
   ·
    rw[hg i (Array.getElem?_eq_some_iff.1 he).1];exact he
  refine S2.imp fun g hg=>.inr ⟨b,c,sp,fr,rfl,hnc,hcap,?_,?_,hfr,hg⟩
  ·
   rw[←hfl,Array.length_toList,hsz,hl]
  ·
   rw[List.length_append,←hfl,Array.length_toList,hsz,←List.length_append,hl2]
theorem yH {α:Type}[Inhabited α]{lt:α→α→Bool}{d:Array α}(h:Go.Sort.SortedIn lt 0 d.size d):d.toList.Pairwise fun x y=>lt y x=false:=by
 rw[List.pairwise_iff_getElem];intro i j hi hj hij;have:=h i j (Nat.zero_le _) hij (by simpa using hj);rw[getElem!_pos d i (by simpa using hi),getElem!_pos d j (by simpa using hj)]at this;simpa using this
theorem Cp {α:Type}[Inhabited α]{d d':Array α}(h:Go.Sort.PermIn 0 d.size d d'):d'.size=d.size∧d'.toList.Perm d.toList:=by
 obtain⟨h1,_,h3⟩:=h;refine⟨h1,?_⟩;have e1:d'.extract 0 d.size=d':=by rw[←h1];exact Array.extract_size
 have e2:d.extract 0 d.size=d:=Array.extract_size;rwa[e1,e2]at h3
end Go.Proofs.YtkjabaihpkbfhaaGreat.K
namespace Go.Proofs.YtkjabaihpkbfhaaGreat.Wk
open Go Go.RowKit Go.Proofs.YtkjabaihpkbfhaaGreat Go.Proofs.YtkjabaihpkbfhaaGreat.K Go.Proofs Go.Shelf Go.Sort
def ym:Go.Shelf.Ren:=⟨fun | 6=>286 | 15=>175 | 14=>295 | 28=>214 | 29=>215 | 20=>297 | 21=>298 | 22=>299 | 23=>300 | 24=>301 | 25=>302 | 26=>303 | 27=>304 | 46=>305 | 47=>306 | 48=>307 | 49=>308 | 50=>309 | 57=>310 | n=>n,fun | 22=>326 | 24=>357 | 25=>397 | 3=>3 | 39=>265 | 0=>0 | 53=>208 | 55=>333 | 4=>4 | 46=>404 | 45=>403 | 50=>340 | 5=>5 | 9=>9 | 66=>409 | 70=>372 | 76=>412 | 77=>121 | n=>n,fun | n=>n⟩
theorem Bt:Go.Proofs.SlLaysF0.n6 Tryz.prog ym:={
 mixed:=(by kernel_rfl)
 f6:=⟨Tryz.f286.name,by decide,Tryz.func286.trans (congrArg some (by kernel_rfl))⟩
 f14:=⟨Tryz.f295.name,by decide,Tryz.func295.trans (congrArg some (by kernel_rfl))⟩
 f15:=Tryz.func175.trans (congrArg some (by kernel_rfl))
 f20:=⟨Tryz.f297.name,by decide,Tryz.func297.trans (congrArg some (by kernel_rfl))⟩
 f21:=⟨Tryz.f298.name,by decide,Tryz.func298.trans (congrArg some (by kernel_rfl))⟩
 f22:=⟨Tryz.f299.name,by decide,Tryz.func299.trans (congrArg some (by kernel_rfl))⟩
 f23:=⟨Tryz.f300.name,by decide,Tryz.func300.trans (congrArg some (by kernel_rfl))⟩
 f24:=⟨Tryz.f301.name,by decide,Tryz.func301.trans (congrArg some (by kernel_rfl))⟩
 f25:=⟨Tryz.f302.name,by decide,Tryz.func302.trans (congrArg some (by kernel_rfl))⟩
 f26:=⟨Tryz.f303.name,by decide,Tryz.func303.trans (congrArg some (by kernel_rfl))⟩
 f27:=⟨Tryz.f304.name,by decide,Tryz.func304.trans (congrArg some (by kernel_rfl))⟩
 f28:=Tryz.func214.trans (congrArg some (by kernel_rfl))
 f29:=Tryz.func215.trans (congrArg some (by kernel_rfl))
 f46:=⟨Tryz.f305.name,by decide,Tryz.func305.trans (congrArg some (by kernel_rfl))⟩
 f47:=Tryz.func306.trans (congrArg some (by kernel_rfl))
 f48:=Tryz.func307.trans (congrArg some (by kernel_rfl))
 f49:=⟨Tryz.f308.name,by decide,Tryz.func308.trans (congrArg some (by kernel_rfl))⟩
 f50:=⟨Tryz.f309.name,by decide,Tryz.func309.trans (congrArg some (by kernel_rfl))⟩
 f57:=⟨Tryz.f310.name,by decide,Tryz.func310.trans (congrArg some (by kernel_rfl))⟩
 t0:=Tryz.underlying0
 a0:=Tryz.isAgg0
 z0:=Tryz.sizeOf0
 v0:=Tryz.zeroValue0
 t3:=Tryz.underlying3
 a3:=Tryz.isAgg3
 z3:=Tryz.sizeOf3
 v3:=Tryz.zeroValue3
 t4:=Tryz.underlying4
 a4:=Tryz.isAgg4
 z4:=Tryz.sizeOf4
 v4:=Tryz.zeroValue4
 t5:=Tryz.underlying5
 a5:=Tryz.isAgg5
 z5:=Tryz.sizeOf5
 v5:=Tryz.zeroValue5
 t9:=Tryz.underlying9
 a9:=Tryz.isAgg9
 z9:=Tryz.sizeOf9
 v9:=Tryz.zeroValue9
 t22:=Tryz.underlying326
 a22:=Tryz.isAgg326
 z22:=Tryz.sizeOf326
 v22:=Tryz.zeroValue326
 t25:=Tryz.underlying397
 a25:=Tryz.isAgg397
 z25:=Tryz.sizeOf397
 v25:=Tryz.zeroValue397
 t39:=Tryz.underlying265
 a39:=Tryz.isAgg265
 z39:=Tryz.sizeOf265
 v39:=Tryz.zeroValue265
 t45:=Tryz.underlying403
 a45:=Tryz.isAgg403
 z45:=Tryz.sizeOf403
 v45:=Tryz.zeroValue403
 t46:=Tryz.underlying404
 a46:=Tryz.isAgg404
 z46:=Tryz.sizeOf404
 v46:=Tryz.zeroValue404
 t50:=Tryz.underlying340
 a50:=Tryz.isAgg340
 z50:=Tryz.sizeOf340
 v50:=Tryz.zeroValue340
 t53:=Tryz.underlying208
 a53:=Tryz.isAgg208
 z53:=Tryz.sizeOf208
 v53:=Tryz.zeroValue208
 t55:=Tryz.underlying333
 a55:=Tryz.isAgg333
 z55:=Tryz.sizeOf333
 v55:=Tryz.zeroValue333
 t66:=Tryz.underlying409
 a66:=Tryz.isAgg409
 z66:=Tryz.sizeOf409
 v66:=Tryz.zeroValue409
 t70:=Tryz.underlying372
 a70:=Tryz.isAgg372
 z70:=Tryz.sizeOf372
 v70:=Tryz.zeroValue372
 t76:=Tryz.underlying412
 a76:=Tryz.isAgg412
 z76:=Tryz.sizeOf412
 v76:=Tryz.zeroValue412
 t77:=Tryz.underlying121
 a77:=Tryz.isAgg121
 z77:=Tryz.sizeOf121
 v77:=Tryz.zeroValue121 }
abbrev tm:={r:bo // 1≤r.1∧r.1≤1000000000}
instance:Inhabited tm:=⟨⟨(1,1),by decide⟩⟩
def Cg (r:tm):List Value:=gW r.1
def Jc (x y:tm):Int:=x.1.1-y.1.1
theorem KY (x y:tm):ltOf Jc x y=decide (x.1.1<y.1.1):=by unfold ltOf Jc;rw[decide_eq_decide];omega
theorem K6:Go.Sort.SWO (ltOf Jc) where
 irrefl x:=by rw[KY];simp
 trans x y z h1 h2:=by rw[KY]at *;simp at *;omega
 ntrans x y z h1 h2:=by rw[KY]at *;simp at *;omega
theorem HB (x y:tm)(W:World):Calls Tryz.prog 287 #[.agg #[.int .i64 x.1.1,.int .i64 x.1.2],.agg #[.int .i64 y.1.1,.int .i64 y.1.2]] W fun e w'=>e=.returned (.int .i64 (x.1.1-y.1.1))∧∃q os',w'=grow (W.drewN q) os':=by
 have hw:IntKind.i64.wrap (x.1.1-y.1.1)=x.1.1-y.1.1:=by
  have:=x.2;have:=y.2;refine gG ?_ ?_<;>simp[IntKind.min,IntKind.max,IntKind.signed,IntKind.bits]<;>omega
 generalize x.1.1=a1 at hw ⊢
 generalize x.1.2=a2
 generalize y.1.1=b1 at hw ⊢
 generalize y.1.2=b2
 go_enter Tryz.func287,Tryz.ntmps287
 go_wp2
 go_ret
 exact⟨rfl,0,_,by rw[alloc_eq_grow,alloc_eq_grow,grow_grow];rfl⟩
theorem AL (blk off size:Nat)(w:World):CmpLays Tryz.prog 287 #[] Cg 2 Jc blk off size w:=fun _ _ _ _ x y=>HB x y _
theorem EI {xs:List bo}(h:∀x∈xs,1≤x.1∧x.1≤x.2∧x.2≤gL):∃gs:List tm,gs.map Subtype.val=xs:=by
 induction xs with
 | nil=>exact⟨[],rfl⟩
 | cons x xs ih =>
   obtain⟨gs,hg⟩:=ih fun y hy=>h y (by simp[hy])
   have hx:=h x (by simp);rw[dI]at hx;exact⟨⟨x,hx.1,by omega⟩::gs,by simp[hg]⟩
theorem G6 (gs:List tm):gs.flatMap Cg=(gs.map Subtype.val).flatMap gW:=by rw[List.flatMap_map];rfl
theorem tE (W w:World)(L:List As)(A:Option Addr)(c:Nat)(xs:List bo)(hS:Sat W w (eX 357 A c xs::L))(hv:∀x∈xs,1≤x.1∧x.1≤x.2∧x.2≤gL)(hl:xs.length≤1000000000000) :
 Calls Tryz.prog 286 #[.slice A xs.length c,.func (.func 287) #[] #[]] w fun e w'=>e=.returned (.tuple #[])∧∃ys,ys.Perm xs∧ys.Pairwise (fun a b=>a.1≤b.1)∧Sat W w' (eX 357 A c ys::L):=by
 by_cases h0:xs=[]
 ·
  subst h0;exact (AnyF.slices_SortFunc_none Bt A c _ w).mono fun e w' ⟨he,hw⟩=>⟨he,[],.refl _,.nil,by rw[hw];exact hS⟩
 ·
  have hpos:0<xs.length:=List.length_pos_iff.2 h0;obtain⟨gs,hg⟩:=EI hv;have hgl:gs.length=xs.length:=by rw[←hg];simp
  have hA:∃b,A=some ⟨b,0,none⟩:=by
   obtain⟨_,h,⟨h1,h2,a,s1,s2,q,r⟩,t⟩:=hS;rcases q with ⟨hv,h3,_⟩ | ⟨b',cap,sp,fr,hv,_⟩
   ·
    omega
   ·
    cases hv;exact⟨_,rfl⟩
  obtain⟨b,rfl⟩:=hA;have hS2:Sat W w (row 357 2 (.slice (some ⟨b,0,none⟩) xs.length c) xs.length (gs.flatMap Cg)::L):=by rw[G6,hg];exact hS
  obtain⟨hH,hb1,hb2⟩:=Ct (enc:=Cg) (fun _=>rfl) hS2 hgl.symm;have eg:∀args w,(callFunc 287 args).run Tryz.prog w=.ok (.enter 287 args) w:=enters_of Tryz.func287 (by kernel_rfl) rfl;have hcon:=AnyQ.slices_SortFunc Bt 2 Tryz.isAgg357 Tryz.sizeOf357 Cg (fun _=>rfl) (fun x=>qe x.1) Jc K6 287 #[] b 0 c gs.toArray w eg (AL _ _ _ _) hH hb2 (by simp;omega);rw[show gs.toArray.size=xs.length from by simpa using hgl]at hcon;change Calls Tryz.prog 286 _ _ _ at hcon;refine hcon.mono ?_;rintro e w' ⟨he,d',n,os,hp,hs,rfl⟩;have hsz:gs.toArray.size=xs.length:=by simpa using hgl
  rw[←hsz]at hp hs;obtain⟨hp1,hp2⟩:=Cp hp;rw[←hp1]at hs;have hs2:=yH hs;refine⟨he,d'.toList.map Subtype.val,?_,?_,?_⟩
  ·
   rw[←hg];exact (hp2.map _).trans (by simp)
  ·
   rw[List.pairwise_map];refine hs2.imp fun {x y} h=>?_;rw[KY]at h;simp at h;exact h
  ·
   have hS3:=Sat.sorted (m:=n) (enc:=Cg) (fun _=>rfl) d' os hS2 hgl.symm (by rw[hp1,hsz,hgl]);rw[G6]at hS3;exact iH hS3 (by simp[hp1,hgl]) rfl
end Go.Proofs.YtkjabaihpkbfhaaGreat.Wk
namespace Go.Proofs.YtkjabaihpkbfhaaGreat.Wk
open Go Go.RowKit Go.Proofs.YtkjabaihpkbfhaaGreat Go.Proofs.YtkjabaihpkbfhaaGreat.K Go.Proofs.YtkjabaihpkbfhaaGreat.T
theorem aD {α:Type}{xs:List α}{i:Nat}{x:α}(h:xs[i]?=some x):xs.take (i+1)=xs.take i++[x]:=by
 have hi:=(List.getElem?_eq_some_iff.1 h).1;rw[List.take_add_one,h];rfl
theorem pn {α:Type}(ls:List (Loc α))(i:Nat):((ls.take i).flatMap Loc.xs).length≤(ls.flatMap Loc.xs).length:=by
 conv=>rhs;rw[←List.take_append_drop i ls,List.flatMap_append,List.length_append]
 omega
theorem CQ {ls:List (Loc bo)}{i:Nat}{l:Loc bo}(hl:ls[i]?=some l)(j:Nat):(fo ((ls.take i).flatMap Loc.xs++l.xs.take j)).length≤(ls.flatMap Loc.xs).length:=by
 refine Nat.le_trans (iU _) ?_;have h1:=pn ls (i+1);rw[aD hl,List.flatMap_append,List.length_append]at h1;simp only[List.flatMap_cons,List.flatMap_nil,List.append_nil]at h1;rw[List.length_append,List.length_take];omega
theorem zm (W:World)(A:Option Addr)(c:Nat)(ls:List (Loc bo))(hR:Rd W 1 (.slice A ls.length c) ls.length (ls.flatMap rN))(hE:∀l∈ls,l.runs W)(hn:ls.length≤1000000000000)(ht:(ls.flatMap Loc.xs).length≤1000000000000):Calls Tryz.prog 277 #[.slice A (ls).length c] W fun e w'=>∃A' c',e=.returned (.slice A' (ax (ls.flatMap Loc.xs)).length c')∧Sat W w' [eX 357 A' c' (ax (ls.flatMap Loc.xs))]:=by
 refine enter Tryz.func277 rfl rfl rfl (.cons (i:=0) rfl .nil) ?_;have hS:=Sat.start W;refine uC 14 ?_;refine u1 4 (ar rfl Dy) ?_;intro a hA;refine wp_loop_ghost (fun (mm:Nat) a w=>∃(i:Nat) (xs:List bo) (Aa:Option Addr) (ca:Nat),Ag a 50 [(3,.slice Aa (xs).length ca),(13,.slice A (ls).length c),(14,.int .i64 ((ls.length:Nat):Int)),(15,.int .i64 ((i:Nat):Int))]∧Sat W w ([eX 357 Aa ca xs])∧(i≤ls.length)∧(xs=fo ((ls.take i).flatMap Loc.xs))∧mm=ls.length-i) ls.length ?_ ?_
 ·replace hA:=hA.kp [3,13,14,15] rfl;exact⟨0,[],none,0,hA,(hS.aY 357 2),(by omega),(by rfl),by omega⟩
 intro m a w hI;clear hS hA;obtain⟨i,xs,Aa,ca,hA,hS,hi,hx,rfl⟩:=hI;refine rC 2 hA ?_;clear hA a;refine aR 0 0 (aw rfl rfl) ?_ ?_
 ·intro h16;refine uO 10 ?_;obtain⟨A_p,rfl⟩:∃q,A=some q:=(hR.sat hS).av (by omega);obtain⟨l,hl⟩:∃zz_,ls[i]?=some zz_:=⟨_,List.getElem?_eq_getElem (by omega)⟩;obtain⟨la,lc,lxs⟩:=l;have hlr:j8 W la lc lxs:=hE _ (List.mem_of_getElem? hl);intro a hA
  have hll:lxs.length≤1000000000000:=by
   have h1:=pn ls (i+1);rw[aD hl,List.flatMap_append,List.length_append]at h1;simp only[List.flatMap_cons,List.flatMap_nil,List.append_nil]at h1;omega
  refine o1 0 hA (aj (hA.ev rfl) (hA.ev rfl) Dy iV (by omega) (by omega)) ?_;clear hA a;refine u1 6 (aq rfl kT (bJ (hR.sat hS) (Fv hl 0 _ rfl))) ?_;refine u1 4 (ar rfl bU) ?_;intro a hA;refine wp_loop_ghost (fun (mm:Nat) a w=>∃(j:Nat) (xs:List bo) (Aa:Option Addr) (ca:Nat),Ag a 50 [(3,.slice Aa (xs).length ca),(13,.slice (some A_p) (ls).length c),(14,.int .i64 ((ls.length:Nat):Int)),(15,.int .i64 ((i:Nat):Int)),(19,.slice la (lxs).length lc),(20,.int .i64 ((lxs.length:Nat):Int)),(21,.int .i64 ((j:Nat):Int))]∧Sat W w ([eX 357 Aa ca xs])∧(j≤lxs.length)∧(xs=fo ((ls.take i).flatMap Loc.xs++lxs.take j))∧mm=lxs.length-j) lxs.length ?_ ?_
  ·replace hA:=hA.kp [3,13,14,15,19,20,21] rfl;exact⟨0,xs,Aa,ca,hA,hS,(by omega),(by rw[hx];simp),by omega⟩
  intro m a w hI;clear hS hA;obtain⟨j,xs,Aa,ca,hA,hS,hj,hx,rfl⟩:=hI;refine rC 2 hA ?_;clear hA a;refine aR 0 0 (aw rfl rfl) ?_ ?_
  ·intro h22;refine uO 10 ?_;obtain⟨la_p,rfl⟩:∃q,la=some q:=(hlr.sat hS).av (by omega);obtain⟨r,hr⟩:∃zz_,lxs[j]?=some zz_:=⟨_,List.getElem?_eq_getElem (by omega)⟩;have hxl:xs.length≤1000000000000:=by rw[hx];exact Nat.le_trans (CQ hl j) ht
   refine u1 0 (aj rfl rfl bU cS (by omega) (by omega)) ?_;refine u1 0 (ad (cs:=gW r) rfl lM cS (fun j u e=>bJ (hlr.sat hS) (eJ hr j u e))) ?_;refine uN o7 hS ?_;clear hS;intro b7 w hS;refine uW (vs:=[_,_]) (cs':=[_,_]) rfl rfl cS hS ?_;clear hS;intro w hS;refine uO 4 ?_;refine u1 0 (ad (cs:=[_,_]) rfl lM cS (by exact hS.ag (xs:=[_,_]) rfl)) ?_;refine uF Kf rfl (AZ w r) ?_;rintro e w ⟨rfl,hT⟩;replace hS:Sat _ _ _:=hS.ai hT;clear hT;refine⟨_,rfl,?_⟩;refine uO 1 ?_;refine u1 0 (au rfl rfl) ?_;refine nb 0 0 (au rfl rfl) ?_ ?_
   ·intro h29;intro a hA;simp only[decide_eq_decide,decide_eq_true_eq,decide_eq_false_iff_not,Bool.not_eq_true',Bool.not_eq_false',bne_iff_ne,ne_eq,beq_iff_eq,Bool.not_eq_true,Bool.not_eq_false]at h29;refine goN hA rfl o7 hS ?_;clear hA a hS;intro b8 w hS;refine uW (vs:=[_,_]) (cs':=[_,_]) rfl rfl cS hS ?_;clear hS;intro w hS;refine uO 11 ?_;refine u1 0 (ad (cs:=[_,_]) rfl lM cS (by exact hS.ag (xs:=[_,_]) rfl)) ?_;intro a hA;refine ji (vss:=[[_,_]]) hA rfl rfl bU iy rfl rfl rfl (by simp) rfl hS ?_;clear hA a hS;intro A33 w hS;intro a hA;refine dy hA rfl rfl rfl bU iy rfl (hS.p 3) (hS.rd.src bU (by simp[Value.oneCell'])) (by omega) (by omega) ?_;clear hA a hS;intro A34 c34 w hc34 hS;refine uO 5 ?_;refine u1 2 (ah rfl rfl (by omega) (by omega)) ?_;intro a hA;replace hA:=hA.kp [3,13,14,15,19,20,21] rfl
    have hc:gS r=some (max r.1 1,min r.2 1000000000):=by unfold gS;rw[dI,if_pos h29]
    have e1:=nw (a:=(ls.take i).flatMap Loc.xs++lxs.take j) hc;rw[List.append_assoc,←aD hr,←hx]at e1;refine⟨lxs.length-(j+1),by omega,j+1,xs++[(max r.1 1,min r.2 1000000000)],_,_,?_,iH (fz hS) (by simp) (by simp[gW]),by omega,e1.symm,rfl⟩;rw[List.length_append];exact hA
   ·intro h29;intro a hA;simp only[decide_eq_decide,decide_eq_true_eq,decide_eq_false_iff_not,Bool.not_eq_true',Bool.not_eq_false',bne_iff_ne,ne_eq,beq_iff_eq,Bool.not_eq_true,Bool.not_eq_false]at h29;refine goN hA rfl o7 hS ?_;clear hA a hS;intro b8 w hS;refine uW (vs:=[_,_]) (cs':=[_,_]) rfl rfl cS hS ?_;clear hS;intro w hS;refine uO 13 ?_;refine u1 2 (ah rfl rfl (by omega) (by omega)) ?_;intro a hA;replace hA:=hA.kp [3,13,14,15,19,20,21] rfl;have hc:gS r=none:=by unfold gS;rw[dI,if_neg h29]
    have e1:=nF (a:=(ls.take i).flatMap Loc.xs++lxs.take j) hc;rw[List.append_assoc,←aD hr,←hx]at e1;exact⟨lxs.length-(j+1),by omega,j+1,xs,_,_,hA,hS.drop.drop,by omega,e1.symm,rfl⟩
  ·intro h22;refine uO 11 ?_;refine u1 2 (ah rfl rfl (by omega) (by omega)) ?_;intro a hA;replace hA:=hA.kp [3,13,14,15] rfl;refine⟨ls.length-(i+1),by omega,i+1,xs,_,_,hA,hS,by omega,?_,rfl⟩;rw[hx,List.take_of_length_le (show lxs.length≤j by omega),aD hl,List.flatMap_append];simp
 ·intro h16;obtain rfl:i=ls.length:=by omega
  intro a hA;rw[List.take_length]at hx;refine rO 12 hA ?_;clear hA a;refine uF J5 rfl (tE _ _ _ Aa ca xs hS (fun x hq=>by rw[hx]at hq;exact nX x hq) (by rw[hx];exact Nat.le_trans (iU _) ht)) ?_;clear hS;rintro e w ⟨rfl,ys,hp,hsd,hS⟩;refine⟨_,rfl,?_⟩;intro a hA;rw[←hp.length_eq]at hA;replace hp:ys.Perm (fo (ls.flatMap Loc.xs)):=hx ▸ hp;have hyl:ys.length≤1000000000000:=by rw[hp.length_eq];exact Nat.le_trans (iU _) ht
  refine rO 11 hA ?_;clear hA a;refine u1 3 (ar rfl bU) ?_;intro a hA;replace hA:=hA.kp [10,39,40,41] rfl;refine rC 1 hA ?_;clear hA a;intro a hA;refine wp_loop_ghost (fun (mm:Nat) a w=>∃(k:Nat) (Ao:Option Addr) (co:Nat),Ag a 50 [(10,.slice Ao (((ys.take k).foldl gg [])).length co),(39,.slice Aa (ys).length ca),(40,.int .i64 ((ys.length:Nat):Int)),(41,.int .i64 ((k:Nat):Int))]∧Sat W w ([eX 357 Ao co ((ys.take k).foldl gg []),eX 357 Aa ca ys])∧(k≤ys.length)∧mm=ys.length-k) ys.length ?_ ?_
  ·replace hA:=hA.kp [10,39,40,41] rfl;exact⟨0,none,0,hA,(hS.aY 357 2),(by omega),by omega⟩
  intro m a w hI;clear hS hA;obtain⟨k,Ao,co,hA,hS,hk,rfl⟩:=hI;refine rC 2 hA ?_;clear hA a;refine aR 0 0 (aw rfl rfl) ?_ ?_
  ·intro h42;refine uO 10 ?_;obtain⟨Aa_p,rfl⟩:∃q,Aa=some q:=(hS.p 1).rd.av (by omega);obtain⟨r,hr⟩:∃zz_,ys[k]?=some zz_:=⟨_,List.getElem?_eq_getElem (by omega)⟩;have huc:=Cz hp hsd k;have hcb:∀x∈(ys.take k).foldl gg [],0≤x.2∧x.2≤1000000000:=fun x hq=>by have:=huc.1.each x hq;rw[dI]at this;omega
   intro a hA
   have hcl:((ys.take k).foldl gg []).length≤1000000000000:=by
    have:=om (ys.take k) [];simp at this;omega
   refine o1 0 hA (aj (hA.ev rfl) (hA.ev rfl) bU cS (by omega) (by omega)) ?_;clear hA a;refine u1 0 (ad (cs:=gW r) rfl lM cS (fun j u e=>bJ (hS.p 1).rd (eJ hr j u e))) ?_;refine uN o7 hS ?_;clear hS;intro b12 w hS;refine uW (vs:=[_,_]) (cs':=[_,_]) rfl rfl cS hS ?_;clear hS;intro w hS;refine uO 4 ?_;refine u1 0 (ad (cs:=[_,_]) rfl lM cS (by exact hS.ag (xs:=[_,_]) rfl)) ?_;refine uF J3 rfl (Dd _ _ _ Ao co ((ys.take k).foldl gg []) r (hS.p 1) hcb hcl) ?_;clear hS;rintro e w ⟨A1,c1,rfl,hS⟩;refine⟨_,rfl,?_⟩;refine uO 5 ?_;refine u1 2 (ah rfl rfl (by omega) (by omega)) ?_;intro a hA;replace hA:=hA.kp [10,39,40,41] rfl;have e1:(ys.take (k+1)).foldl gg []=gg ((ys.take k).foldl gg []) r:=by rw[aD hr,List.foldl_append];rfl
   refine⟨ys.length-(k+1),by omega,k+1,A1,c1,?_,?_,by omega,rfl⟩
   ·rw[e1];exact hA
   ·rw[e1];exact (hS.p 1).drop
  ·intro h42;refine uO 16 ?_;refine aX ?_;have eU:(ys.take k).foldl gg []=ax (ls.flatMap Loc.xs):=by rw[List.take_of_length_le (by omega),Ck hp hsd]
   rw[eU]at hS ⊢;exact⟨_,_,rfl,fz hS⟩
theorem HL (W:World)(B:Option Addr)(d:Nat)(A:Option Addr)(c:Nat)(xs:List bo)(hB:Rd W 1 (.slice B 1 d) 1 [.slice A xs.length c])(hR:j8 W A c xs)(hl:xs.length≤1000000000000) :
 Calls Tryz.prog 277 #[.slice B 1 d] W fun e w'=>∃A' c',e=.returned (.slice A' (ax xs).length c')∧Sat W w' [eX 357 A' c' (ax xs)]:=by
 have h:=zm W B d [(⟨A,c,xs⟩:Loc bo)] hB (fun l h=>by simp at h;subst h;exact hR) (by simp) (by simpa using hl);rw[show [(⟨A,c,xs⟩:Loc bo)].flatMap Loc.xs=xs from by simp]at h;exact h
theorem wB {ns:List bo}(h:∀r,ns[0]?=some r→r.1≠1):aT ns=(0,ns):=by
 cases ns with
 | nil=>rfl
 | cons r l=>rw[gf,if_neg (h r rfl)]
theorem DJ {ns:List bo}{r:bo}(h:ns[0]?=some r)(h1:r.1=1):aT ns=(r.2,ns.drop 1):=by
 cases ns with
 | nil=>simp at h
 | cons x l=>simp at h;subst h;rw[gf,if_pos h1];rfl
theorem qY (l m:List bo):cY (l++m)=cY l+cY m:=by
 unfold cY
 induction l with
 | nil=>simp
 | cons x l ih=>simp only[List.cons_append,List.foldr_cons,ih];omega
theorem su {l:List bo}(h:can l)(i:Nat):0≤cY (l.take i)∧cY (l.take i)≤1000000000:=by
 have hc:can (l.take i):=vg (m:=l.drop i) (by rw[List.take_append_drop];exact h);refine⟨(iM hc).1,?_⟩;rcases vf hc (Int.le_refl 0) (fun s hs=>by have:=(hc.each s hs).1;omega) with h | h
 ·
  rw[dI]at h;omega
 ·
  rw[h];decide
theorem aF {α:Type}{xs:List α}{i:Nat}{x:α}(h:xs[i]?=some x):xs.drop i=x::xs.drop (i+1):=by
 have hi:=(List.getElem?_eq_some_iff.1 h);rw[List.drop_eq_getElem_cons hi.1,hi.2]
theorem zn (next:Int)(r:bo)(l:List bo):lu next (r::l)=(if next<r.1 then [(next,r.1-1)] else [])++lu (r.2+1) l:=rfl
theorem BG (next:Int):lu next []=if next≤gL then [(next,gL)] else []:=rfl
theorem kO (W:World)(A:Option Addr)(c:Nat)(xs:List bo)(hR:j8 W A c xs)(hl:xs.length≤1000000000000):Calls Tryz.prog 253 #[.slice A (xs).length c] W fun e w'=>∃A' c',e=.returned (.slice A' (ax xs).length c')∧Sat W w' [eX 357 A' c' (ax xs)]:=by
 refine enter Tryz.func253 rfl rfl rfl (.cons (i:=0) rfl .nil) ?_;have hS:=Sat.start W;refine uC 8 ?_;intro a hA;refine nC hA rfl rfl Dy IW rfl rfl rfl (by simp[Value.oneCell']) hS ?_;clear hA a hS;intro A4 w hS;refine uF IP rfl (HL _ _ _ A c xs hS.rd (hR.sat hS) hl) ?_;rintro e w ⟨A1,c1,rfl,hT⟩;replace hS:=hS.aB hT;clear hT;refine⟨_,rfl,?_⟩;refine uO 4 ?_;refine aX ?_;exact⟨_,_,rfl,fz hS⟩
theorem zU (W:World)(A:Option Addr)(c:Nat)(xs:List bo)(hR:j8 W A c xs)(hl:xs.length≤1000000000000):Calls Tryz.prog 243 #[.slice A (xs).length c] W fun e w'=>∃A' c',e=.returned (.tuple #[.int .i64 (aT (ax xs)).1,.slice A' (aT (ax xs)).2.length c'])∧Sat W w' [eX 357 A' c' (aT (ax xs)).2]:=by
 refine enter Tryz.func243 rfl rfl rfl (.cons (i:=0) rfl .nil) ?_;intro a hA;refine Fm fun Q _ hQ=>?_;have hS:=Sat.start W;refine rC 9 hA ?_;clear hA a;refine uF yK rfl (kO _ A c xs (hR.sat hS) hl) ?_;rintro e w ⟨A1,c1,rfl,hT⟩;replace hS:=hS.aB hT;clear hT;have hcn1:=et xs;have hnl1:=cD xs;generalize hns1:ax xs=ns at hS hcn1 hnl1 ⊢;refine⟨_,rfl,?_⟩;refine uO 7 ?_;refine u1 0 (ar rfl bU) ?_;refine aR 0 0 (bn rfl rfl) ?_ ?_
 ·intro h9;refine uO 19 ?_;intro a hA;refine hQ _ _ _ ?_;refine F1 hA rfl rfl rfl ?_;have eL:aT ns=(0,ns):=wB fun q hq=>by rw[List.getElem?_eq_none (by omega)]at hq;cases hq
  rw[hns1,eL];exact⟨_,_,rfl,fz hS⟩
 ·intro h9;refine uO 2 ?_;obtain⟨A1_p,rfl⟩:∃q,A1=some q:=hS.rd.av (by omega);obtain⟨r,hr⟩:∃zz_,ns[0]?=some zz_:=⟨_,List.getElem?_eq_getElem (by omega)⟩;refine u1 0 (aj rfl rfl bU cS (by omega) (by omega)) ?_;refine u1 0 (aA rfl gH) ?_;refine u1 0 (aq rfl aQ (bJ hS.rd (eJ hr 0 _ rfl))) ?_;refine aR 0 0 (aK rfl rfl) ?_ ?_
  ·intro h15;refine uO 13 ?_;intro a hA;refine hQ _ _ _ ?_;refine F1 hA rfl rfl rfl ?_;have eL:aT ns=(0,ns):=wB fun q hq=>by rw[hr]at hq;cases hq;exact h15
   rw[hns1,eL];exact⟨_,_,rfl,fz hS⟩
  ·intro h15;refine uO 7 ?_;intro a hA;refine bh [] hS (by kernel_rfl) ?_;replace hS:=hS.drew;refine rX [0] hA ?_;clear hA a;refine bz 1 [] rfl (fun w=>(aj rfl rfl bU cS (by omega) (by omega))) ?_;refine bz 2 [] rfl (fun w=>(aA rfl dU)) ?_;refine cT 3 [4] rfl (by exact⟨[],hS⟩) (fun w hT=>have hS:=hT.sat;(aq rfl aQ (bJ hS.rd (eJ hr 1 _ rfl)))) ?_;refine bz 5 [] rfl (fun w=>(wm rfl rfl bU cS (by omega) (by omega))) ?_;intro a hA;refine aG 6 (by kernel_rfl) ?_;refine eF hA rfl rfl Kp rfl (xi _ _ _ _ (ns.drop 1) (F2 hS.rd (by omega)) (by simp) (by simp;omega)) ?_;clear hA a;rintro e w ⟨A2,c2,rfl,hT⟩;replace hS:=hS.aB hT;clear hT;refine⟨_,rfl,?_⟩;intro a hA;refine⟨.inr fun _=>(by exact⟨[_],hS⟩),?_⟩;refine rX [7,8] hA ?_;clear hA a;intro a hA;refine ak (by kernel_rfl) ?_ _
   refine rE 1 hA ?_;clear hA a;intro a hA;replace hA:=hA.kp [2,3] rfl;refine rC 1 hA ?_;clear hA a;intro a hA;refine hQ _ _ _ ?_;refine F1 hA rfl rfl rfl ?_;have eL:=DJ hr (by omega);rw[hns1,eL];exact⟨_,_,rfl,fz hS⟩
theorem AV (W:World)(A:Option Addr)(c:Nat)(xs:List bo)(hR:j8 W A c xs)(hl:xs.length≤1000000000000):Calls Tryz.prog 204 #[.slice A (xs).length c] W fun e w'=>e=.returned (.int .i64 (cY (ax xs)))∧Sat W w' []:=by
 refine enter Tryz.func204 rfl rfl rfl (.cons (i:=0) rfl .nil) ?_;intro a hA;refine Fm fun Q _ hQ=>?_;have hS:=Sat.start W;refine rC 14 hA ?_;clear hA a;refine uF yK rfl (kO _ A c xs (hR.sat hS) hl) ?_;rintro e w ⟨A1,c1,rfl,hT⟩;replace hS:=hS.aB hT;clear hT;have hcn1:=et xs;have hnl1:=cD xs;generalize hns1:ax xs=ns at hS hcn1 hnl1 ⊢;refine⟨_,rfl,?_⟩;refine u1 4 (ar rfl bU) ?_;intro a hA;refine wp_loop_ghost (fun (mm:Nat) a w=>∃(i:Nat),Ag a 23 [(3,.int .i64 (cY (ns.take i))),(7,.slice A1 (ns).length c1),(8,.int .i64 ((ns.length:Nat):Int)),(9,.int .i64 ((i:Nat):Int))]∧Sat W w ([eX 357 A1 c1 ns])∧(i≤ns.length)∧mm=ns.length-i) ns.length ?_ ?_
 ·replace hA:=hA.kp [3,7,8,9] rfl;exact⟨0,hA,hS,(by omega),by omega⟩
 intro m a w hI;clear hS hA;obtain⟨i,hA,hS,hi,rfl⟩:=hI;refine rC 2 hA ?_;clear hA a;refine aR 0 0 (aw rfl rfl) ?_ ?_
 ·intro h10;refine uO 10 ?_;obtain⟨A1_p,rfl⟩:∃q,A1=some q:=hS.rd.av (by omega);obtain⟨r,hr⟩:∃zz_,ns[i]?=some zz_:=⟨_,List.getElem?_eq_getElem (by omega)⟩;have hb1:=su hcn1 i;have hrb:=hcn1.each r (List.mem_of_getElem? hr);intro a hA;rw[dI]at hrb;refine o1 0 hA (aj (hA.ev rfl) (hA.ev rfl) bU cS (by omega) (by omega)) ?_;clear hA a;refine u1 0 (ad (cs:=gW r) rfl lM cS (fun j u e=>bJ hS.rd (eJ hr j u e))) ?_;refine uN o7 hS ?_;clear hS;intro b5 w hS;refine uW (vs:=[_,_]) (cs':=[_,_]) rfl rfl cS hS ?_;clear hS;intro w hS
  refine uO 4 ?_;refine u1 0 (aa rfl dU) ?_;refine u1 0 (ld rfl aQ) ?_;refine u1 0 (aa rfl gH) ?_;refine u1 0 (ld rfl aQ) ?_;refine u1 0 (aZ rfl rfl (by omega) (by omega)) ?_;refine u1 0 (ah rfl rfl (by omega) (by omega)) ?_;refine u1 5 (ah rfl rfl (by omega) (by omega)) ?_;refine u1 2 (ah rfl rfl (by omega) (by omega)) ?_;intro a hA;replace hA:=hA.kp [3,7,8,9] rfl;have e1:cY (ns.take (i+1))=cY (ns.take i)+(r.2-r.1+1):=by rw[aD hr,qY];simp[cY]
  refine⟨ns.length-(i+1),by omega,i+1,?_,hS.drop,by omega,rfl⟩;rw[e1];exact hA
 ·intro h10;refine uO 16 ?_;intro a hA;refine hQ _ _ _ ?_;refine Dv hA rfl rfl ?_;have e1:ns.take i=ns:=List.take_of_length_le (by omega);rw[e1,hns1];exact⟨rfl,hS.nil⟩
theorem xI (W:World)(A:Option Addr)(c:Nat)(xs:List bo)(hR:j8 W A c xs)(hl:xs.length≤1000000000000)(hc:can xs):Calls Tryz.prog 403 #[.slice A (xs).length c] W fun e w'=>∃A' c',e=.returned (.slice A' (lu 1 xs).length c')∧Sat W w' [eX 357 A' c' (lu 1 xs)]:=by
 refine enter Tryz.func403 rfl rfl rfl (.cons (i:=0) rfl .nil) ?_;have hS:=Sat.start W;refine uC 19 ?_;refine u1 4 (ar rfl bU) ?_;intro a hA;refine wp_loop_ghost (fun (mm:Nat) a w=>∃(i:Nat) (next:Int) (out:List bo) (Ao:Option Addr) (co:Nat),Ag a 37 [(3,.slice Ao (out).length co),(4,.int .i64 next),(7,.slice A (xs).length c),(8,.int .i64 ((xs.length:Nat):Int)),(9,.int .i64 ((i:Nat):Int))]∧Sat W w ([eX 357 Ao co out])∧(i≤xs.length)∧(1≤next)∧(next≤1000000001)∧(out.length≤i)∧(out++lu next (xs.drop i)=lu 1 xs)∧mm=xs.length-i) xs.length ?_ ?_
 ·replace hA:=hA.kp [3,4,7,8,9] rfl;exact⟨0,1,[],none,0,hA,(hS.aY 357 2),(by omega),(by omega),(by omega),(by simp),(by rfl),by omega⟩
 intro m a w hI;clear hS hA;obtain⟨i,next,out,Ao,co,hA,hS,hi,hn1,hn2,hol,ho,rfl⟩:=hI;refine rC 2 hA ?_;clear hA a;refine aR 0 0 (aw rfl rfl) ?_ ?_
 ·intro h10;refine uO 10 ?_;obtain⟨A_p,rfl⟩:∃q,A=some q:=(hR.sat hS).av (by omega);obtain⟨r,hr⟩:∃zz_,xs[i]?=some zz_:=⟨_,List.getElem?_eq_getElem (by omega)⟩;have hrb:=hc.each r (List.mem_of_getElem? hr);intro a hA;rw[dI]at hrb;refine o1 0 hA (aj (hA.ev rfl) (hA.ev rfl) bU cS (by omega) (by omega)) ?_;clear hA a;refine u1 0 (ad (cs:=gW r) rfl lM cS (fun j u e=>bJ (hR.sat hS) (eJ hr j u e))) ?_;refine uN o7 hS ?_;clear hS;intro b6 w hS;refine uW (vs:=[_,_]) (cs':=[_,_]) rfl rfl cS hS ?_;clear hS;intro w hS;refine uO 6 ?_;refine u1 0 (aa rfl gH) ?_;refine u1 0 (ld rfl aQ) ?_;refine aR 0 0 (aw rfl rfl) ?_ ?_
  ·intro h16;refine uO 6 ?_;refine u1 0 (aa rfl gH) ?_;refine u1 0 (ld rfl aQ) ?_;refine u1 0 (aZ rfl rfl (by omega) (by omega)) ?_;intro a hA;refine o1 0 hA (aP hA rfl kC) ?_;clear hA a;intro a hA;refine ji (vss:=[[_,_]]) hA rfl rfl bU iy rfl rfl rfl (by simp) rfl hS ?_;clear hA a hS;intro A23 w hS;intro a hA;refine dy hA rfl rfl rfl bU iy rfl (hS.p 2) (hS.rd.src bU (by simp[Value.oneCell'])) (by omega) (by omega) ?_;clear hA a hS;intro A24 c24 w hc24 hS;refine uO 4 ?_;refine u1 0 (aa rfl dU) ?_;refine u1 0 (ld rfl aQ) ?_;refine u1 5 (ah rfl rfl (by omega) (by omega)) ?_;refine u1 2 (ah rfl rfl (by omega) (by omega)) ?_;intro a hA;replace hA:=hA.kp [3,4,7,8,9] rfl;rw[aF hr,zn,if_pos h16,←List.append_assoc]at ho
   refine⟨xs.length-(i+1),by omega,i+1,r.2+1,out++[(next,r.1-1)],A24,c24,?_,iH (fz hS) (by simp) (by simp[gW]),by omega,by omega,by omega,by simp;omega,ho,rfl⟩;rw[List.length_append];exact hA
  ·intro h16;refine uO 6 ?_;refine u1 0 (aa rfl dU) ?_;refine u1 0 (ld rfl aQ) ?_;refine u1 5 (ah rfl rfl (by omega) (by omega)) ?_;refine u1 2 (ah rfl rfl (by omega) (by omega)) ?_;intro a hA;replace hA:=hA.kp [3,4,7,8,9] rfl;rw[aF hr,zn,if_neg h16,List.nil_append]at ho;exact⟨xs.length-(i+1),by omega,i+1,r.2+1,out,Ao,co,hA,hS.drop,by omega,by omega,by omega,by omega,ho,rfl⟩
 ·intro h10;refine uO 13 ?_;refine aR 0 0 (du rfl rfl) ?_ ?_
  ·intro h30;refine uO 2 ?_;intro a hA;replace hA:=hA.kp [3,4,30] rfl;refine rC 4 hA ?_;clear hA a;intro a hA;refine o1 0 hA (aP hA rfl kC) ?_;clear hA a;intro a hA;refine ji (vss:=[[_,_]]) hA rfl rfl bU iy rfl rfl rfl (by simp) rfl hS ?_;clear hA a hS;intro A34 w hS;intro a hA;refine dy hA rfl rfl rfl bU iy rfl (hS.p 1) (hS.rd.src bU (by simp[Value.oneCell'])) (by omega) (by omega) ?_;clear hA a hS;intro A35 c35 w hc35 hS;refine uO 10 ?_;refine aX ?_;rw[List.drop_of_length_le (by omega),BG,dI,if_pos h30]at ho;rw[←ho];exact⟨_,_,pX (by simp),iH (fz hS) (by simp) (by simp[gW])⟩
  ·intro h30;refine uO 2 ?_;intro a hA;replace hA:=hA.kp [3,4,30] rfl;refine rC 10 hA ?_;clear hA a;refine aX ?_;rw[List.drop_of_length_le (by omega),BG,dI,if_neg h30,List.append_nil]at ho;rw[←ho];exact⟨_,_,rfl,hS⟩
theorem oR {x y:List bo}{i j:Nat}{p q:bo}(hp:x[i]?=some p)(hq:y[j]?=some q):dV (x.drop i) (y.drop j)=(if max p.1 q.1≤min p.2 q.2 then [(max p.1 q.1,min p.2 q.2)] else [])++(if p.2<q.2 then dV (x.drop (i+1)) (y.drop j) else dV (x.drop i) (y.drop (j+1))):=by
 rw[aF hp,aF hq,pW]
theorem Cl {x y:List bo}{i j:Nat}(h:x.length≤i):dV (x.drop i) (y.drop j)=[]:=by rw[List.drop_of_length_le h];cases y.drop j<;>simp[dV]
theorem Ci {x y:List bo}{i j:Nat}(h:y.length≤j):dV (x.drop i) (y.drop j)=[]:=by rw[List.drop_of_length_le h,wN]
theorem AG (W:World)(A:Option Addr)(c:Nat)(xs:List bo)(B:Option Addr)(d:Nat)(ys:List bo)(hX:j8 W A c xs)(hY:j8 W B d ys)(hlx:xs.length≤1000000000000)(hly:ys.length≤1000000000000):Calls Tryz.prog 402 #[.slice A (xs).length c,.slice B (ys).length d] W fun e w'=>∃A' c',e=.returned (.slice A' (dV (ax xs) (ax ys)).length c')∧Sat W w' [eX 357 A' c' (dV (ax xs) (ax ys))]:=by
 refine enter Tryz.func402 rfl rfl rfl (.cons (i:=0) rfl (.cons (i:=1) rfl .nil)) ?_;intro a hA;refine Fm fun Q _ hQ=>?_;have hS:=Sat.start W;refine rC 8 hA ?_;clear hA a;refine uF yK rfl (kO _ A c xs (hX.sat hS) hlx) ?_;rintro e w ⟨A1,c1,rfl,hT⟩;replace hS:=hS.aB hT;clear hT;have hcn1:=et xs;have hnl1:=cD xs;generalize hns1:ax xs=ns at hS hcn1 hnl1 ⊢;refine⟨_,rfl,?_⟩;refine uO 1 ?_;refine uF yK rfl (kO _ B d ys (hY.sat hS) hly) ?_;rintro e w ⟨A2,c2,rfl,hT⟩;replace hS:=hS.aB hT;clear hT;have hcn2:=et ys;have hnl2:=cD ys;generalize hns2:ax ys=ms at hS hcn2 hnl2 ⊢;refine⟨_,rfl,?_⟩;refine uO 17 ?_;intro a hA
 refine wp_loop_ghost (fun (mm:Nat) a w=>∃(i j:Nat) (out:List bo) (Ao:Option Addr) (co:Nat),Ag a 73 [(5,.slice A1 (ns).length c1),(6,.slice A2 (ms).length c2),(7,.slice Ao (out).length co),(8,.int .i64 ((i:Nat):Int)),(9,.int .i64 ((j:Nat):Int))]∧Sat W w ([eX 357 Ao co out,eX 357 A2 c2 ms,eX 357 A1 c1 ns])∧(i≤ns.length)∧(j≤ms.length)∧(out.length≤i+j)∧(out++dV (ns.drop i) (ms.drop j)=dV ns ms)∧mm=ns.length+ms.length-(i+j)) (ns.length+ms.length) ?_ ?_
 ·replace hA:=hA.kp [5,6,7,8,9] rfl;exact⟨0,0,[],none,0,hA,(hS.aY 357 2),(by omega),(by omega),(by simp),(by rfl),by omega⟩
 intro m a w hI;clear hS hA;obtain⟨i,j,out,Ao,co,hA,hS,hi,hj,hol,ho,rfl⟩:=hI;refine rC 5 hA ?_;clear hA a;refine u1 0 (ar rfl bU) ?_;refine aR 0 0 (aw rfl rfl) ?_ ?_
 ·intro h18;refine uO 3 ?_;refine u1 0 (ar rfl bU) ?_;refine aR 0 0 (aw rfl rfl) ?_ ?_
  ·intro h23;obtain⟨p,hp⟩:∃p,ns[i]?=some p:=⟨_,List.getElem?_eq_getElem (by omega)⟩;obtain⟨q,hq⟩:∃q,ms[j]?=some q:=⟨_,List.getElem?_eq_getElem (by omega)⟩;obtain⟨A1_p,rfl⟩:∃q,A1=some q:=(hS.p 2).rd.av (by omega);obtain⟨A2_p,rfl⟩:∃q,A2=some q:=(hS.p 1).rd.av (by omega);refine uO 8 ?_;intro a hA;refine bh [24] hS (by kernel_rfl) ?_;replace hS:=hS.drew;refine rX [0,1] hA ?_;clear hA a
   refine bz 2 [] rfl (fun w=>(aj rfl rfl bU cS (by omega) (by omega))) ?_;refine bz 3 [] rfl (fun w=>(aA rfl gH)) ?_;refine cT 4 [5,6] rfl (by exact⟨[],hS⟩) (fun w hT=>have hS:=hT.sat;(aq rfl aQ (bJ (hS.p 2).rd (eJ hp 0 _ rfl)))) ?_;refine bz 7 [] rfl (fun w=>(aj rfl rfl bU cS (by omega) (by omega))) ?_;refine bz 8 [] rfl (fun w=>(aA rfl gH)) ?_;refine cT 9 [] rfl (by exact⟨[],hS⟩) (fun w hT=>have hS:=hT.sat;(aq rfl aQ (bJ (hS.p 1).rd (eJ hq 0 _ rfl)))) ?_;refine bz 10 [11,12] rfl (fun w=>(tJ rfl rfl)) ?_;refine bz 13 [] rfl (fun w=>(aj rfl rfl bU cS (by omega) (by omega))) ?_;refine bz 14 [] rfl (fun w=>(aA rfl dU)) ?_;refine cT 15 [16,17] rfl (by exact⟨[],hS⟩) (fun w hT=>have hS:=hT.sat;(aq rfl aQ (bJ (hS.p 2).rd (eJ hp 1 _ rfl)))) ?_;refine bz 18 [] rfl (fun w=>(aj rfl rfl bU cS (by omega) (by omega))) ?_;refine bz 19 [] rfl (fun w=>(aA rfl dU)) ?_;refine cT 20 [] rfl (by exact⟨[],hS⟩) (fun w hT=>have hS:=hT.sat;(aq rfl aQ (bJ (hS.p 1).rd (eJ hq 1 _ rfl)))) ?_;refine bz 21 [] rfl (fun w=>(x4 rfl rfl)) ?_
   intro a hA;refine P1 22 [] hA rfl (fun w=>(aP hA rfl kC)) ?_;clear hA a;intro a hA;refine aG 23 (by kernel_rfl) ?_;refine eN hA rfl rfl o7 hS ?_;clear hA a hS;intro b10 w hS;intro a hA;refine⟨.inr fun _=>(by exact⟨[_],hS⟩),?_⟩;refine aG 24 (by kernel_rfl) ?_;refine dq (vs:=[_,_]) (cs':=[_,_]) hA rfl rfl rfl cS (by simp[Value.oneCell']) hS rfl rfl ?_;clear hS;intro w hS;refine⟨.inl rfl,?_⟩;refine ak (by kernel_rfl) ?_ _;refine rE 4 hA ?_;clear hA a;refine u1 0 (aa rfl gH) ?_;refine u1 0 (ld rfl aQ) ?_;refine u1 0 (aa rfl dU) ?_;refine u1 0 (ld rfl aQ) ?_;refine aR 0 0 (du rfl rfl) ?_ ?_
   ·intro h52;refine uO 5 ?_;refine u1 0 (ad (cs:=[_,_]) rfl lM cS (by exact hS.ag (xs:=[_,_]) rfl)) ?_;intro a hA;refine ji (vss:=[[_,_]]) hA rfl rfl bU iy rfl rfl rfl (by simp) rfl hS ?_;clear hA a hS;intro A55 w hS;intro a hA;refine dy hA rfl rfl rfl bU iy rfl (hS.p 2) (hS.rd.src bU (by simp[Value.oneCell'])) (by omega) (by omega) ?_;clear hA a hS;intro A56 c56 w hc56 hS;refine uO 4 ?_;intro a hA;refine cF (fun w'=>Sat _ w' _) (by kernel_rfl) (by kernel_rfl) hS.drew ?_;refine rQ 2 hA ?_;clear hA a
    refine br 0 (fun w hS=>(aj rfl rfl bU cS (by omega) (by omega))) ?_;refine br 0 (fun w hS=>(aA rfl dU)) ?_;refine br 2 (fun w hS=>(aq rfl aQ (bJ (hS.p 4).rd (eJ hp 1 _ rfl)))) ?_;refine br 0 (fun w hS=>(aj rfl rfl bU cS (by omega) (by omega))) ?_;refine br 0 (fun w hS=>(aA rfl dU)) ?_;refine br 0 (fun w hS=>(aq rfl aQ (bJ (hS.p 3).rd (eJ hq 1 _ rfl)))) ?_;intro a hA;refine K.se hA rfl rfl rfl (fun w hS=>(aw (hA.ev rfl) (hA.ev rfl))) ?_ ?_
    ·clear hA a;intro h67;intro a hA;refine wpQuiet_nil ?_;clear hS;intro w hS;refine rE 4 hA ?_;clear hA a;refine u1 3 (ah rfl rfl (by omega) (by omega)) ?_;intro a hA;replace hA:=hA.kp [5,6,7,8,9] rfl;rw[oR hp hq,if_pos h52,if_pos h67,←List.append_assoc]at ho;refine⟨ns.length+ms.length-(i+1+(j)),by omega,i+1,j,out++[(max p.1 q.1,min p.2 q.2)],A56,c56,?_,iH (rb (((hS.p 4).p 4).p 2)) (by simp) (by simp[gW]),by omega,by omega,by simp;omega,ho,rfl⟩;rw[List.length_append];exact hA
    ·clear hA a;intro h67;intro a hA;refine wpQuiet_nil ?_;clear hS;intro w hS;refine rE 4 hA ?_;clear hA a;refine u1 3 (ah rfl rfl (by omega) (by omega)) ?_;intro a hA;replace hA:=hA.kp [5,6,7,8,9] rfl;rw[oR hp hq,if_pos h52,if_neg h67,←List.append_assoc]at ho;refine⟨ns.length+ms.length-(i+(j+1)),by omega,i,j+1,out++[(max p.1 q.1,min p.2 q.2)],A56,c56,?_,iH (rb (((hS.p 4).p 4).p 2)) (by simp) (by simp[gW]),by omega,by omega,by simp;omega,ho,rfl⟩;rw[List.length_append];exact hA
   ·intro h52;refine uO 6 ?_;intro a hA;refine cF (fun w'=>Sat _ w' _) (by kernel_rfl) (by kernel_rfl) hS.drew ?_;refine rQ 2 hA ?_;clear hA a;refine br 0 (fun w hS=>(aj rfl rfl bU cS (by omega) (by omega))) ?_;refine br 0 (fun w hS=>(aA rfl dU)) ?_;refine br 2 (fun w hS=>(aq rfl aQ (bJ (hS.p 3).rd (eJ hp 1 _ rfl)))) ?_;refine br 0 (fun w hS=>(aj rfl rfl bU cS (by omega) (by omega))) ?_;refine br 0 (fun w hS=>(aA rfl dU)) ?_;refine br 0 (fun w hS=>(aq rfl aQ (bJ (hS.p 2).rd (eJ hq 1 _ rfl)))) ?_;intro a hA;refine K.se hA rfl rfl rfl (fun w hS=>(aw (hA.ev rfl) (hA.ev rfl))) ?_ ?_
    ·clear hA a;intro h67;intro a hA;refine wpQuiet_nil ?_;clear hS;intro w hS;refine rE 4 hA ?_;clear hA a;refine u1 3 (ah rfl rfl (by omega) (by omega)) ?_;intro a hA;replace hA:=hA.kp [5,6,7,8,9] rfl;rw[oR hp hq,if_neg h52,if_pos h67,List.nil_append]at ho;exact⟨ns.length+ms.length-(i+1+(j)),by omega,i+1,j,out,Ao,co,hA,hS.drop,by omega,by omega,by omega,ho,rfl⟩
    ·clear hA a;intro h67;intro a hA;refine wpQuiet_nil ?_;clear hS;intro w hS;refine rE 4 hA ?_;clear hA a;refine u1 3 (ah rfl rfl (by omega) (by omega)) ?_;intro a hA;replace hA:=hA.kp [5,6,7,8,9] rfl;rw[oR hp hq,if_neg h52,if_neg h67,List.nil_append]at ho;exact⟨ns.length+ms.length-(i+(j+1)),by omega,i,j+1,out,Ao,co,hA,hS.drop,by omega,by omega,by omega,ho,rfl⟩
  ·intro h23;refine uO 9 ?_;intro a hA;replace hA:=hA.kp [7] rfl;refine rC 7 hA ?_;clear hA a;intro a hA;refine hQ _ _ _ ?_;refine Dv hA rfl rfl ?_;rw[Ci (by omega),List.append_nil]at ho;rw[hns1,hns2,←ho];exact⟨_,_,rfl,fz hS⟩
 ·intro h18;refine uO 14 ?_;intro a hA;replace hA:=hA.kp [7] rfl;refine rC 7 hA ?_;clear hA a;intro a hA;refine hQ _ _ _ ?_;refine Dv hA rfl rfl ?_;rw[Cl (by omega),List.append_nil]at ho;rw[hns1,hns2,←ho];exact⟨_,_,rfl,fz hS⟩
theorem sB (W:World)(A:Option Addr)(c:Nat)(xs:List bo)(B:Option Addr)(d:Nat)(ys:List bo)(hX:j8 W A c xs)(hY:j8 W B d ys)(hlx:xs.length≤100000000000)(hly:ys.length≤100000000000):Calls Tryz.prog 388 #[.slice A (xs).length c,.slice B (ys).length d] W fun e w'=>∃A' c',e=.returned (.slice A' (ed (ax xs) (ax ys)).length c')∧Sat W w' [eX 357 A' c' (ed (ax xs) (ax ys))]:=by
 refine enter Tryz.func388 rfl rfl rfl (.cons (i:=0) rfl (.cons (i:=1) rfl .nil)) ?_;intro a hA;refine Fm fun Q _ hQ=>?_;have hS:=Sat.start W;refine rC 9 hA ?_;clear hA a;refine uF yK rfl (kO _ B d ys (hY.sat hS) (by omega)) ?_;rintro e w ⟨A1,c1,rfl,hT⟩;replace hS:=hS.aB hT;clear hT;have hcn1:=et ys;have hnl1:=cD ys;generalize hns1:ax ys=ns at hS hcn1 hnl1 ⊢;refine⟨_,rfl,?_⟩;refine uF Jv rfl (xI _ A1 c1 ns hS.rd (by omega) hcn1) ?_;rintro e w ⟨A2,c2,rfl,hT⟩;replace hS:=hS.aB hT;clear hT;refine⟨_,rfl,?_⟩;refine uF Ik rfl (AG _ A c xs A2 c2 (lu 1 ns) (hX.sat hS) hS.rd (by omega) (Nat.le_trans (pY ns 1) (by omega))) ?_;rintro e w ⟨A3,c3,rfl,hT⟩;replace hS:=hS.aB hT;clear hT;refine⟨_,rfl,?_⟩;refine uO 4 ?_;intro a hA;refine hQ _ _ _ ?_;refine Dv hA rfl rfl ?_;rw[tD (xA hcn1)]at hS ⊢
 rw[hns1];exact⟨_,_,rfl,fz hS⟩
theorem xH (W:World)(A:Option Addr)(c:Nat)(xs:List bo)(B:Option Addr)(d:Nat)(ys:List bo)(hX:j8 W A c xs)(hY:j8 W B d ys)(hlx:xs.length≤100000000000)(hly:ys.length≤100000000000):Calls Tryz.prog 370 #[.slice A (xs).length c,.slice B (ys).length d] W fun e w'=>e=.returned (.bool (decide (ed (ax xs) (ax ys)=[])))∧Sat W w' []:=by
 refine enter Tryz.func370 rfl rfl rfl (.cons (i:=0) rfl (.cons (i:=1) rfl .nil)) ?_;have hS:=Sat.start W;refine uC 9 ?_;refine uF GQ rfl (sB _ A c xs B d ys (hX.sat hS) (hY.sat hS) hlx hly) ?_;rintro e w ⟨A3,c3,rfl,hT⟩;replace hS:=hS.aB hT;clear hT;refine⟨_,rfl,?_⟩;refine u1 0 (ar rfl bU) ?_;refine u1 4 (bn rfl rfl) ?_;refine aX ?_;refine⟨?_,hS.nil⟩
 congr 2
 rw[decide_eq_decide];constructor
 ·intro h;exact List.eq_nil_of_length_eq_zero (by omega)
 ·intro h;rw[h];rfl
end Go.Proofs.YtkjabaihpkbfhaaGreat.Wk
namespace Go.Proofs.YtkjabaihpkbfhaaGreat.Wk
open Go Go.RowKit Go.Proofs.YtkjabaihpkbfhaaGreat Go.Proofs.YtkjabaihpkbfhaaGreat.K
def gV (vec:List Int)(p:Option aO)(s:aO):Bool:=decide (0≤s.rep) && decide (s.rep<16) && decide (s.lo≤s.hi) && decide (s.hi≤1000000000) && match p with
 | none=>decide (ay vec s.rep.toNat+2≤s.lo)
 | some q=>decide (q.rep≤s.rep) && (if q.rep=s.rep then decide (q.hi+2≤s.lo) else decide (ay vec s.rep.toNat+2≤s.lo))
structure Ca (p:aL):Prop where
 len:p.vec.length≤16
 vec:∀v∈p.vec,0≤v∧v≤1000000000
 ab:kB (gV p.vec) none p.ab=true
structure y9 (p:aL):Prop extends Ca p where
 last:∀v,p.vec.getLast?=some v→v≠0
theorem dH {v:List Int}(h:∀x∈v,0≤x∧x≤1000000000)(r:Nat):0≤ay v r∧ay v r≤1000000000:=by
 unfold ay;cases e:v[r]? with
 | none=>simp
 | some x=>exact h x (List.mem_of_getElem? e)
theorem qM {vec:List Int}:∀ {c:List aO} {p:Option aO},kB (gV vec) p c=true→∀s∈c,0≤s.rep∧s.rep<16∧s.lo≤s.hi∧s.hi≤1000000000
 | s :: c, p, h, t, ht => by
   rw[kB,Bool.and_eq_true]at h;rcases List.mem_cons.1 ht with rfl | ht
   ·
    have h1:=h.1;unfold gV at h1;simp only[Bool.and_eq_true,decide_eq_true_eq]at h1;exact⟨h1.1.1.1.1,h1.1.1.1.2,h1.1.1.2,h1.1.2⟩
   ·
    exact qM h.2 t ht
theorem qU {vec:List Int}(hv:∀r,0≤ay vec r):∀ {c:List aO} {q:aO},kB (gV vec) (some q) c=true→q.lo≤q.hi→ay vec q.rep.toNat+2≤q.lo→∀s∈c,q.rep≤s.rep∧(q.rep=s.rep→q.hi+2≤s.lo)∧ay vec s.rep.toNat+2≤s.lo
 | s :: c, q, h, hq, hq2, t, ht => by
   rw[kB,Bool.and_eq_true]at h;have h1:=h.1;unfold gV at h1;simp only[Bool.and_eq_true,decide_eq_true_eq]at h1
   have hs:ay vec s.rep.toNat+2≤s.lo:=by
    by_cases e:q.rep=s.rep
    ·
     have:=h1.2.2;rw[if_pos e]at this;simp at this;rw[←e];omega
    ·
     have:=h1.2.2;rw[if_neg e]at this;simpa using this
   have hs2:q.rep=s.rep→q.hi+2≤s.lo:=fun e=>by have:=h1.2.2;rw[if_pos e]at this;simpa using this
   rcases List.mem_cons.1 ht with rfl | ht
   ·
    exact⟨h1.2.1,hs2,hs⟩
   ·
    obtain⟨a,b,d⟩:=qU hv h.2 h1.1.1.2 hs t ht;refine⟨by omega,fun e=>?_,d⟩;have e1:q.rep=s.rep:=by omega
    have:=hs2 e1;have:=b (by omega);omega
theorem s9 {vec:List Int}(hv:∀r,0≤ay vec r){c:List aO}(h:kB (gV vec) none c=true):∀s∈c,ay vec s.rep.toNat+2≤s.lo:=by
 cases c with
 | nil=>intro s hs;cases hs
 | cons s c =>
   rw[kB,Bool.and_eq_true]at h;have h1:=h.1;unfold gV at h1;simp only[Bool.and_eq_true,decide_eq_true_eq]at h1;intro t ht;rcases List.mem_cons.1 ht with rfl | ht
   ·
    exact h1.2
   ·
    exact (qU hv h.2 h1.1.1.2 h1.2 t ht).2.2
theorem nm (s:aO)(c:List aO)(r:Nat):bS (s::c) r=(if s.rep=(r:Int) then [(s.lo,s.hi)] else [])++bS c r:=by
 unfold bS;rw[List.filterMap_cons]
 split<;>rename_i h<;>split at h<;>simp_all
theorem oz {c:List aO}{r:Nat}{x:bo}(h:x∈bS c r):∃s∈c,s.rep=(r:Int)∧x=(s.lo,s.hi):=by
 obtain⟨s,hs,h⟩:=List.mem_filterMap.1 h
 split at h
 ·
  rename_i e;cases h;exact⟨s,hs,e,rfl⟩
 ·
  cases h
theorem sw {vec:List Int}(hv:∀r,0≤ay vec r):∀ {c:List aO} {p:Option aO},kB (gV vec) p c=true→(∀s∈c,ay vec s.rep.toNat+2≤s.lo)→∀r,can (bS c r)
 | [],_,_,_,r=>trivial
 | s :: c, p, h, hb, r => by
   have hsp:=qM h s (by simp);rw[kB,Bool.and_eq_true]at h;have ih:=sw hv h.2 (fun t ht=>hb t (by simp[ht])) r;rw[nm]
   by_cases e:s.rep=(r:Int)
   ·
    rw[if_pos e];have hs:=hb s (by simp);have:=hv s.rep.toNat;refine⟨by simp only;omega,by simp only;omega,by rw[dI];simp only;omega,fun x hx=>?_,ih⟩;obtain⟨t,ht,h1,rfl⟩:=oz hx;have:=(qU hv h.2 hsp.2.2.1 hs t ht).2.1 (by omega);simp only;omega
   ·
    rw[if_neg e];exact ih
def pJ (p:aL)(r:Nat):List bo:=(if 0<ay p.vec r then [(1,ay p.vec r)] else [])++bS p.ab r
theorem uG {p:aL}(h:Ca p)(r:Nat):can (pJ p r):=by
 have hv:=fun r=>dH h.vec r
 have hb:=s9 (fun r=>(hv r).1) h.ab;have hc:=sw (fun r=>(hv r).1) h.ab hb r;unfold pJ
 split
 ·
  rename_i h0;refine⟨Int.le_refl _,by simp only;omega,by rw[dI];have:=(hv r).2;simp only;omega,fun x hx=>?_,hc⟩;obtain⟨s,hs,e,rfl⟩:=oz hx;have:=hb s hs;rw[e]at this;simp at this;simp only;omega
 ·
  exact hc
theorem sh {p:aL}(h:Ca p)(r:Nat):aN p r=pJ p r:=by
 refine (og (uG h r) fun n=>?_).symm;constructor
 ·
  intro hn;have hb:=(uG h r).bounds hn;refine⟨hb.1,hb.2,?_⟩;unfold pJ at hn;unfold cM;rw[dJ]at *;rcases hn with hn | hn
  ·
   left
   split at hn
   ·
    rename_i h0;unfold ay at h0 hn;cases e:p.vec[r]? with
    | none=>rw[e]at h0;simp at h0
    | some x=>rw[e]at hn;simpa using hn
   ·
    simp[bG]at hn
  ·
   exact .inr hn
 ·
  rintro ⟨h1,h2,hn⟩;unfold pJ;unfold cM at hn;rw[dJ]at *;rcases hn with hn | hn
  ·
   left
   cases e:p.vec[r]? with
   | none=>rw[e]at hn;simp[bG]at hn
   | some x =>
     rw[e]at hn;have hx:ay p.vec r=x:=by unfold ay;rw[e]
     rw[hx];simp[bG]at hn;rw[if_pos (by omega)];simp[bG];omega
  ·
   exact .inr hn
theorem v7 {p:aL}(h:Ca p)(r:Nat):aT (pJ p r)=(ay p.vec r,bS p.ab r):=by
 have hv:=fun r=>dH h.vec r
 unfold pJ
 split
 ·
  rfl
 ·
  rename_i h0;have h0:ay p.vec r=0:=by have:=(hv r).1;omega
  rw[List.nil_append,h0];cases e:bS p.ab r with
  | nil=>rfl
  | cons x l =>
    rw[gf];have hx:x∈bS p.ab r:=by rw[e];simp
    obtain⟨s,hs,e2,rfl⟩:=oz hx;have:=s9 (fun r=>(hv r).1) h.ab s hs;rw[e2]at this;simp at this;rw[if_neg (by simp only;omega)]
theorem eB {v:List Int}{r:Nat}(h:v.length≤r):ay v r=0:=by unfold ay;rw[List.getElem?_eq_none h]
theorem tO {v:List Int}(hv:∀x∈v,0≤x∧x≤1000000000)(hl:∀x,v.getLast?=some x→x≠0){f:Nat→Int}(hf:∀r,f r=ay v r):∀k,v.length≤k→cB f k=v.length
 | 0, h => by have : v.length = 0 := by omega
              rw[this];rfl
 | k + 1, h => by
   rw[cB]
   by_cases e:v.length=k+1
   ·
    have hk:k<v.length:=by omega
    have h1:v.getLast?=some v[k]:=by rw[List.getLast?_eq_getElem?,e];simp[hk]
    have h2:=hl _ h1;have h3:=hv v[k] (List.getElem_mem hk);have h4:f k=v[k]:=by rw[hf,ay,List.getElem?_eq_getElem hk]
    rw[if_pos (by omega),e]
   ·
    have h4:f k=0:=by rw[hf,eB (by omega)]
    rw[if_neg (by omega)];exact tO hv hl hf k (by omega)
theorem nR {α β:Type _}{l:List α}{f g:α→List β}(h:∀x∈l,f x=g x):l.flatMap f=l.flatMap g:=by
 induction l with
 | nil=>rfl
 | cons x l ih=>rw[List.flatMap_cons,List.flatMap_cons,h x (by simp),ih fun y hy=>h y (by simp[hy])]
theorem uv:∀(c:List aO) (a k:Nat),(∀s∈c,(a:Int)≤s.rep∧s.rep<(a+k:Nat))→c.Pairwise (fun s t=>s.rep≤t.rep)→(List.range' a k).flatMap (fun r=>(bS c r).map fun x=>(⟨(r:Int),x.1,x.2⟩:aO))=c
 | [], a, k, _, _ => by
   rw[List.flatMap_eq_nil_iff];intro r _;rfl
 | s :: c, a, k, h, hp => by
   obtain⟨j,hj⟩:∃j:Nat,s.rep=(j:Int):=⟨s.rep.toNat,by have:=(h s (by simp)).1;omega⟩;have hs:=h s (by simp);have hle:=(List.pairwise_cons.1 hp).1
   have e1:List.range' a k=List.range' a (j-a)++(List.range' j 1++List.range' (j+1) (a+k-j-1)):=by
    have h1:k=(j-a)+(1+(a+k-j-1)):=by omega
    have h2:a+1 * (j-a)=j:=by omega
    conv=>lhs;rw[h1,←List.range'_append,h2,←List.range'_append,Nat.mul_one]
   have e2:List.range' j (a+k-j)=List.range' j 1++List.range' (j+1) (a+k-j-1):=by
    have h1:a+k-j=1+(a+k-j-1):=by omega
    conv=>lhs;rw[h1,←List.range'_append,Nat.mul_one]
   have ih:=uv c j (a+k-j) (fun t ht=>by have:=hle t ht;have:=(h t (by simp[ht])).2;omega) (List.pairwise_cons.1 hp).2;rw[e1,List.flatMap_append]
   have z:(List.range' a (j-a)).flatMap (fun r=>(bS (s::c) r).map fun x=>(⟨(r:Int),x.1,x.2⟩:aO))=[]:=by
    rw[List.flatMap_eq_nil_iff];intro r hr;rw[List.mem_range'_1]at hr;rw[List.map_eq_nil_iff];refine List.filterMap_eq_nil_iff.2 fun t ht=>?_;rw[if_neg];rcases List.mem_cons.1 ht with rfl | ht
    ·
     omega
    ·
     have:=hle t ht;omega
   rw[z,List.nil_append,List.flatMap_append];rw[e2,List.flatMap_append]at ih
   have y:(List.range' (j+1) (a+k-j-1)).flatMap (fun r=>(bS (s::c) r).map fun x=>(⟨(r:Int),x.1,x.2⟩:aO))=(List.range' (j+1) (a+k-j-1)).flatMap (fun r=>(bS c r).map fun x=>(⟨(r:Int),x.1,x.2⟩:aO)):=by
    refine nR fun r hr=>?_;rw[List.mem_range'_1]at hr;rw[nm,if_neg (by omega),List.nil_append]
   rw[y];simp only[List.range'_one,List.flatMap_cons,List.flatMap_nil,List.append_nil]at ih ⊢;rw[nm,if_pos hj,List.map_append,List.append_assoc,ih,←hj]
   rfl
theorem yb {vec:List Int}(hv:∀r,0≤ay vec r):∀ {c:List aO} {p:Option aO},kB (gV vec) p c=true→(∀s∈c,ay vec s.rep.toNat+2≤s.lo)→c.Pairwise (fun s t=>s.rep≤t.rep)
 | [],_,_,_=>.nil
 | s :: c, p, h, hb => by
   have hsp:=qM h s (by simp);rw[kB,Bool.and_eq_true]at h;exact .cons (fun t ht=>(qU hv h.2 hsp.2.2.1 (hb s (by simp)) t ht).1) (yb hv h.2 fun t ht=>hb t (by simp[ht]))
theorem yU {p:aL}(h:y9 p):hJ p=p:=by
 have hw:=h.toCa;have hv:=fun r=>dH hw.vec r
 have hl:∀r,bj (aN p) r=ay p.vec r:=fun r=>by unfold bj;rw[sh hw,v7 hw]
 have hr:∀r,aS (aN p) r=(bS p.ab r).map fun x=>(⟨(r:Int),x.1,x.2⟩:aO):=fun r=>by unfold aS;rw[sh hw,v7 hw]
 unfold hJ fW
 have e1:(List.range (cB (bj (aN p)) 16)).map (bj (aN p))=p.vec:=by
  rw[tO hw.vec h.last hl 16 hw.len];refine List.ext_getElem? fun i=>?_;rw[List.getElem?_map]
  by_cases hi:i<p.vec.length
  ·
   rw[List.getElem?_range hi,List.getElem?_eq_getElem hi];simp only[Option.map_some];rw[hl,ay,List.getElem?_eq_getElem hi]
  ·
   rw[List.getElem?_eq_none (by simpa using hi),List.getElem?_eq_none (by omega)];rfl
 have e2:(List.range 16).flatMap (aS (aN p))=p.ab:=by
  rw[List.range_eq_range',nR (g:=fun r=>(bS p.ab r).map fun x=>(⟨(r:Int),x.1,x.2⟩:aO)) fun r _=>hr r];exact uv p.ab 0 16 (fun s hs=>by have:=qM hw.ab s hs;omega) (yb (fun r=>(hv r).1) hw.ab (s9 (fun r=>(hv r).1) hw.ab))
 rw[e1,e2]
theorem yV {vec:List Int}{r:Nat}(hr:r<16):∀ {l:List bo} {p:Option aO} {t:List aO},can l→(∀s∈l,ay vec r+2≤s.1)→(∀q,p=some q→q.rep≤(r:Int)∧(q.rep=(r:Int)→∀s∈l,q.hi+2≤s.1))→
 (∀p':Option aO,(∀q,p'=some q→q.rep≤(r:Int))→kB (gV vec) p' t=true)→kB (gV vec) p (l.map (fun s=>(⟨(r:Int),s.1,s.2⟩:aO))++t)=true
 | [],p,t,_,_,hp,ht=>ht p fun q hq=>(hp q hq).1
 | s :: l, p, t, hl, hv, hp, ht => by
   rw[List.map_cons,List.cons_append,kB,Bool.and_eq_true];refine⟨?_,yV hr hl.tail (fun x hx=>hv x (by simp[hx])) (fun q hq=>?_) ht⟩
   ·
    have h2:=hl.2.1;have h3:=hl.2.2.1;rw[dI]at h3;have hv0:=hv s (by simp);unfold gV;simp only[Bool.and_eq_true,decide_eq_true_eq,Int.toNat_natCast];refine⟨⟨⟨⟨by omega,by omega⟩,h2⟩,h3⟩,?_⟩;cases p with
    | none=>simpa using hv0
    | some q =>
      obtain⟨a,b⟩:=hp q rfl;simp only[Bool.and_eq_true,decide_eq_true_eq];refine⟨a,?_⟩
      split
      ·
       rename_i e;simpa using b e s (by simp)
      ·
       simpa using hv0
   ·
    cases hq;refine⟨Int.le_refl _,fun _ x hx=>?_⟩;have:=hl.2.2.2.1 x hx;simp only;omega
theorem wi {vec:List Int}{f:Nat→List bo}(hf:∀r,can (f r))(hv:∀r,r<16→ay vec r=(aT (f r)).1):∀(k a:Nat),a+k=16→∀p:Option aO,(∀q,p=some q→q.rep<(a:Int))→kB (gV vec) p ((List.range' a k).flatMap (aS f))=true
 | 0,a,_,p,_=>by simp[kB]
 | k + 1, a, ha, p, hp => by
   rw[List.range'_succ,List.flatMap_cons];obtain⟨_,_,hc,hb,_⟩:=ob (hf a);refine yV (by omega) hc (fun s hs=>by rw[hv a (by omega)];have:=hb s hs;omega) (fun q hq=>⟨by have:=hp q hq;omega,fun e=>by have:=hp q hq;omega⟩) fun p' hp'=>?_;exact wi hf hv k (a+1) (by omega) p' fun q hq=>by have:=hp' q hq;omega
theorem uz {f:Nat→List bo}(hf:∀r,can (f r)):y9 (fW f):=by
 have hvec:∀r,r<16→ay (fW f).vec r=(aT (f r)).1:=fun r hr=>by
  unfold fW ay;simp only[List.getElem?_map]
  by_cases h:r<cB (bj f) 16
  ·
   rw[List.getElem?_range h];rfl
  ·
   rw[List.getElem?_eq_none (by simpa using h)];have h1:=pw (bj f) 16 r (by omega) hr;have h2:=(ob (hf r)).1;unfold bj at h1;show 0=_;omega
 refine⟨⟨?_,fun v hv=>?_,?_⟩,fun v hv=>?_⟩
 ·
  show ((List.range _).map _).length≤16;have:=mx (bj f) 16;simpa using this
 ·
  obtain⟨r,_,rfl⟩:=List.mem_map.1 hv;have h:=ob (hf r);rw[dI]at h;exact⟨h.1,h.2.1⟩
 ·
  show kB _ none ((List.range 16).flatMap (aS f))=true;rw[List.range_eq_range'];exact wi hf hvec 16 0 rfl none fun q hq=>by cases hq
 ·
  have hv:((List.range (cB (bj f) 16)).map (bj f)).getLast?=some v:=hv;rw[List.getLast?_eq_getElem?,List.getElem?_map]at hv;simp only[List.length_map,List.length_range]at hv;obtain⟨j,hj,rfl⟩:=Option.map_eq_some_iff.1 hv
  have h0:0<cB (bj f) 16:=by
   have:=(List.getElem?_eq_some_iff.1 hj).1;simp at this;omega
  rw[List.getElem?_range (by omega)]at hj;cases hj;have:=vU (bj f) 16 h0;omega
theorem iL (p:aL):y9 (hJ p):=uz fun r=>bx p r
theorem DC {p:aL}:hJ p=p↔y9 p:=⟨fun h=>h ▸ iL p,yU⟩
theorem gq {p:aL}:bL p=true↔y9 p:=by unfold bL;rw[decide_eq_true_eq,DC]
theorem uV {a b:aL}(h1:a.vec=b.vec)(h2:a.ab=b.ab):a=b:=by cases a;cases b;simp only at h1 h2;subst h1 h2;rfl
def Loc.v {α:Type}(l:Loc α):Value:=.slice l.a l.xs.length l.c
def Loc.jn (e:Nat)(l:Loc bo):As:=eX e l.a l.c l.xs
abbrev jU (ty t:Nat)(ls:List (Loc bo)):As:=a8 t (.cells (ls.map Loc.v).toArray ty (0,0))
theorem qp {ls:List (Loc bo)}{i e:Nat}{l:Loc bo}(h:ls[i]?=some l):(ls.map (Loc.jn e))[i]?=some (Loc.jn e l):=by rw[List.getElem?_map,h];rfl
theorem gT {W w:World}{L:List As}{ty t i k:Nat}{ls:List (Loc bo)}{l:Loc bo}(s:Sat W w (jU ty t ls::L))(h:ls[i]?=some l)(hk:k=i:=by simp):w.cell? ⟨t,k,none⟩=some (.slice l.a l.xs.length l.c):=by
 subst hk;exact s.pq (by simp[h,Loc.v])
theorem s5 {W w:World}{L:List As}{e i:Nat}{ls:List (Loc bo)}{l l':Loc bo}(h:ls[i]?=some l)(s:Sat W w (Loc.jn e l'::bt ((ls.map (Loc.jn e)).eraseIdx i)::L)):Sat W w (bt ((ls.set i l').map (Loc.jn e))::L):=by
 rw[List.map_set];exact Sat.uZ (by rw[List.length_map];exact (List.getElem?_eq_some_iff.1 h).1) s
theorem ry {W w:World}{L:List As}{e i:Nat}{ls:List (Loc bo)}{l:Loc bo}(s:Sat W w (bt (ls.map (Loc.jn e))::L))(h:ls[i]?=some l):j8 w l.a l.c l.xs:=(s.dN (qp h)).rd
section
variable {P:Program} {ops:Array Oper} {a:Act} {n:Nat} {E:Env} {w W:World} {rest:List Oper} {Q:Exit→Act→World→Prop} {L:List As} {t ty:TypeId} {ps:String} {af:Array Edge} {x y:Operand} {ds:List Deferred}
theorem eT {q:Nat}{K:Act→World→Prop}{tb i t':Nat}{p:Addr}{v:Value}{ls:List (Loc bo)}{l:Loc bo}(l':Loc bo)(hA:Ag a n E ds)(hi':ops[q]?=some ⟨none,.store t x y,ty,ps,af,none⟩)(hx:fF E x=some (.pointer (some p)))(hp:p=⟨tb,i,none⟩)(hy:fF E y=some v)(hv:v=l'.v)(ht:flat P t=true)(h1:(P.info? t).map (·.size)=some 1)
 (s:Sat W w (jU t' tb ls::L)) (hi:ls[i]?=some l) (k:∀w',Sat W w' (jU t' tb (ls.set i l')::L)→K a w'):wpOp P ops Q q K a w:=by
 subst hp hv;refine eW hA hi' hx hy ht h1 rfl s (u:=l.v) (by rw[lY];simp[hi]) fun w' h=>k w' ?_;rw[jU,List.map_set];simpa using h
end
def gl (ps:List aL)(r:Nat):List bo:=ps.flatMap fun p=>cM p r
def ia (ls:List (Loc bo))(f:Nat→List bo):Prop:=ls.length=16∧∀r l,ls[r]?=some l→l.xs=f r
theorem ia.get {ls:List (Loc bo)}{f:Nat→List bo}(h:ia ls f){r:Nat}(hr:r<16):∃A c,ls[r]?=some ⟨A,c,f r⟩:=by
 have hl:r<ls.length:=by rw[h.1];exact hr
 have:=h.2 r ls[r] (List.getElem?_eq_getElem hl);refine⟨ls[r].a,ls[r].c,?_⟩;rw[List.getElem?_eq_getElem hl,←this]
theorem ia.set {ls:List (Loc bo)}{f g:Nat→List bo}(h:ia ls f){r:Nat}{l:Loc bo}(hl:l.xs=g r)(hg:∀k,k<16→k≠r→g k=f k):ia (ls.set r l) g:=by
 refine⟨by rw[List.length_set];exact h.1,fun k x hx=>?_⟩;have hk:k<16:=by have:=(List.getElem?_eq_some_iff.1 hx).1;rw[List.length_set,h.1]at this;exact this
 by_cases e:r=k
 ·
  subst e;rw[List.getElem?_set_self (by rw[h.1];exact hk)]at hx;cases hx;exact hl
 ·
  rw[List.getElem?_set_ne e]at hx;rw[h.2 k x hx,hg k hk (Ne.symm e)]
theorem ia.congr {ls:List (Loc bo)}{f g:Nat→List bo}(h:ia ls f)(hg:∀k,k<16→f k=g k):ia ls g:=⟨h.1,fun r l hl=>by
 have hr:r<16:=by have:=(List.getElem?_eq_some_iff.1 hl).1;rw[h.1]at this;exact this
 rw[h.2 r l hl,hg r hr]⟩
def nv (v:List Int)(j r:Nat):List bo:=if r<j then (match v[r]? with | some x=>[(1,x)] | none=>[]) else []
theorem CB {v:List Int}{j r:Nat}(hr:r<16)(hj:min v.length 16≤j):nv v j r=match v[r]? with | some x=>[(1,x)] | none=>[]:=by
 unfold nv
 split
 ·
  rfl
 ·
  rename_i h;rw[List.getElem?_eq_none (by omega)]
theorem HK (p:aL){r j k:Nat}(hr:r<16)(hj:min p.vec.length 16≤j)(hk:p.ab.length≤k):nv p.vec j r++bS (p.ab.take k) r=cM p r:=by
 unfold cM;rw[CB hr hj,List.take_of_length_le hk];cases p.vec[r]?<;>rfl
theorem Az {v:List Int}{j:Nat}{x:Int}(h:v[j]?=some x):(∀r,r≠j→nv v (j+1) r=nv v j r)∧nv v (j+1) j=nv v j j++[(1,x)]:=by
 unfold nv;refine⟨fun r hr=>?_,by simp[h]⟩
 by_cases h1:r<j
 ·
  rw[if_pos h1,if_pos (by omega)]
 ·
  rw[if_neg h1,if_neg (by omega)]
theorem AJ {c:List aO}{k:Nat}{s:aO}(h:c[k]?=some s)(r:Nat):bS (c.take (k+1)) r=bS (c.take k) r++if s.rep=(r:Int) then [(s.lo,s.hi)] else []:=by
 rw[List.take_add_one,h,nM]
 congr 1
 show bS [s] r=_;unfold bS
 by_cases e:s.rep=(r:Int)
 ·
  simp[e]
 ·
  simp[e]
theorem An (ps:List aL)(p:aL)(r:Nat):gl (ps++[p]) r=gl ps r++cM p r:=by simp[gl]
theorem ek (p:aL)(r:Nat):(cM p r).length≤p.ab.length+1:=by
 unfold cM bS;rw[List.length_append];have:=List.length_filterMap_le (fun s:aO=>if s.rep=(r:Int) then some (s.lo,s.hi) else none) p.ab
 split<;>simp<;>omega
def cN (ps:List aL):Nat:=(ps.map fun p=>p.ab.length+1).sum
theorem ku (ps:List aL)(r:Nat):(gl ps r).length≤cN ps:=by
 induction ps with
 | nil=>simp[gl,cN]
 | cons p ps ih =>
   have:=ek p r;unfold gl cN at *;simp only[List.flatMap_cons,List.length_append,List.map_cons,List.sum_cons];omega
theorem wP {ps:List aL}{i:Nat}{p:aL}(h:ps[i]?=some p):cN (ps.take i)+(p.ab.length+1)≤cN ps:=by
 conv=>rhs;rw[←List.take_append_drop i ps]
 have e:ps.drop i=p::ps.drop (i+1):=by
  have hi:=List.getElem?_eq_some_iff.1 h;rw[List.drop_eq_getElem_cons hi.1,hi.2]
 rw[e];unfold cN;rw[List.map_append,List.sum_append,List.map_cons,List.sum_cons];omega
def wh:Loc bo:=⟨none,0,[]⟩
theorem rj {W w:World}{L:List As}(e:Nat)(s:Sat W w L):∀n,Sat W w (bt ((List.replicate n wh).map (Loc.jn e))::L)
 | 0=>s.kZ
 | n+1=>((rj e s n).aY e 2).oQ
theorem sj:ia (List.replicate 16 wh) (fun _=>[]):=⟨by simp,fun r l h=>by
 have:=List.mem_of_getElem? h;rw[List.eq_of_mem_replicate this];rfl⟩
def dp (T:List aL)(d:aL)(j k r:Nat):List bo:=gl T r++(nv d.vec j r++bS (d.ab.take k) r)
theorem rP (T:List aL)(d:aL)(r:Nat):dp T d 0 0 r=gl T r:=by simp[dp,nv,bS]
theorem mi {T:List aL}{d:aL}{j:Nat}{v:Int}(h:d.vec[j]?=some v):(∀r,r≠j→dp T d (j+1) 0 r=dp T d j 0 r)∧dp T d (j+1) 0 j=dp T d j 0 j++[(1,v)]:=by
 obtain⟨h1,h2⟩:=Az h;unfold dp;refine⟨fun r hr=>by rw[h1 r hr],by rw[h2];simp[bS]⟩
theorem fb {T:List aL}{d:aL}{j k:Nat}{s:aO}(h:d.ab[k]?=some s)(r:Nat):dp T d j (k+1) r=dp T d j k r++if s.rep=(r:Int) then [(s.lo,s.hi)] else []:=by
 unfold dp;rw[AJ h r];simp only[List.append_assoc]
theorem nK {T:List aL}{d:aL}{r k:Nat}(hr:r<16)(hk:d.ab.length≤k):dp T d (min d.vec.length 16) k r=gl (T++[d]) r:=by
 unfold dp;rw[An,HK d hr (Nat.le_refl _) hk]
theorem CJ (v:List Int)(j r:Nat):(nv v j r).length≤1:=by
 unfold nv
 split
 ·
  split<;>simp
 ·
  simp
theorem y6 (c:List aO)(r:Nat):(bS c r).length≤c.length:=List.length_filterMap_le _ _
theorem nO (T:List aL)(d:aL)(j k r:Nat):(dp T d j k r).length≤cN T+(d.ab.length+1):=by
 unfold dp;have h1:=ku T r;have h2:=y6 (d.ab.take k) r;have h3:=CJ d.vec j r;rw[List.length_take]at h2;rw[List.length_append,List.length_append];omega
theorem kK {ps:List PL}{i:Nat}{p:PL}(h:ps[i]?=some p):(ps.map PL.d)[i]?=some p.d:=by rw[List.getElem?_map,h];rfl
theorem CW {W0 W w:World}{L0 M:List As}{ty t i k:Nat}{ls:List (Loc bo)}{l:Loc bo}(s0:Sat W0 W (jU ty t ls::L0))(s:Sat W w M)(h:ls[i]?=some l)(hk:k=i:=by simp):w.cell? ⟨t,k,none⟩=some (.slice l.a l.xs.length l.c):=by
 have h0:=gT s0 h hk;rw[s.below.cell (World.block_lt_of_cell? _ _ h0)];exact h0
theorem HV {f:Nat→Int}{r:Nat}(hr:r<16)(x:Int)(hx:x=f r):(((List.range r).map f++List.replicate (16-r) 0).map (Value.int .i64)).set r (.int .i64 x)=((List.range (r+1)).map f++List.replicate (16-(r+1)) 0).map (Value.int .i64):=by
 subst hx;rw[show Value.int .i64 (f r)=Value.int .i64 (f r) from rfl,←List.map_set]
 congr 1
 rw[List.set_append_right _ _ (by simp),List.range_succ,List.map_append,List.append_assoc]
 congr 1
 obtain⟨k,hk⟩:∃k,16-r=k+1:=⟨16-r-1,by omega⟩;rw[hk,show 16-(r+1)=k from by omega,List.replicate_succ];simp
theorem mJ (f:Nat→List bo)(r:Nat):(List.range (r+1)).flatMap (aS f)=(List.range r).flatMap (aS f)++aS f r:=by
 rw[List.range_succ,List.flatMap_append];simp
def jR (r:Nat)(x:bo):aO:=⟨(r:Int),x.1,x.2⟩
theorem qq (f:Nat→List bo)(r:Nat):aS f r=(aT (f r)).2.map (jR r):=rfl
theorem wJ {w:World}{A:Option Addr}{n c m:Nat}{cs:List Value}(h:Rd w 1 (.slice A n c) n cs)(hm:m≤n):Rd w 1 (.slice (ja A c 1 0) m c) m (cs.take m):=by
 have:=Rd.GV h m hm;rwa[Nat.mul_one]at this
theorem Fz {f:Nat→Int}{r:Nat}(hr:r<16):(((List.range r).map f++List.replicate (16-r) 0).map (Value.int .i64))[r]?=some (.int .i64 0):=by
 rw[List.getElem?_map,List.getElem?_append_right (by simp)];obtain⟨k,hk⟩:∃k,16-r=k+1:=⟨16-r-1,by omega⟩;rw[hk];simp[List.replicate_succ]
theorem BA {f:Nat→Int}{r:Nat}(hr:r≤16):(((List.range r).map f++List.replicate (16-r) 0).map (Value.int .i64)).length=16:=by simp;omega
theorem yS {f:Nat→Int}{m:Nat}(hm:m≤16):(((List.range 16).map f++List.replicate (16-16) 0).map (Value.int .i64)).take m=((List.range m).map f).map (Value.int .i64):=by
 rw[Nat.sub_self,List.replicate_zero,List.append_nil,←List.map_take,←List.map_take,List.take_range,Nat.min_eq_left hm]
theorem rL {fr:Nat→List bo}{B:Nat}(hb:∀r,r<16→(fr r).length≤B):∀r,r≤16→((List.range r).flatMap (aS fun r=>ax (fr r))).length≤r * B
 | 0,_=>by simp
 | r + 1, h => by
   have h1:=rL hb r (by omega);have h2:=hb r (by omega);have h3:=cD (fr r);have h4:=lL (ax (fr r));rw[mJ,qq,List.length_append,List.length_map,Nat.add_mul];omega
theorem s6 (p:aL):∀r,0≤((List.range r).map fun r=>cY (aN p r)).sum∧((List.range r).map fun r=>cY (aN p r)).sum≤(r:Int) * 1000000000
 | 0=>by simp
 | r + 1 => by
   have h:=s6 p r;have h1:=(iM (bx p r)).1
   have h2:cY (aN p r)≤1000000000:=by
    rcases vf (bx p r) (Int.le_refl 0) (fun s hs=>by have:=((bx p r).each s hs).1;omega) with h | h
    ·
     rw[dI]at h;omega
    ·
     rw[h];decide
   rw[List.range_succ,List.map_append,List.sum_append];simp only[List.map_cons,List.map_nil,List.sum_cons,List.sum_nil];omega
theorem rZ (p:aL)(r:Nat):((List.range (r+1)).map fun r=>cY (aN p r)).sum=((List.range r).map fun r=>cY (aN p r)).sum+cY (ax (cM p r)):=by
 rw[List.range_succ,List.map_append,List.sum_append];simp[aN]
theorem C8 {a b:aL}{r:Nat}(hr:r<16)(h:¬ed (ax (cM a r)) (ax (cM b r))=[]):ck a b=false:=by
 unfold ck;rw[List.all_eq_false];exact⟨r,List.mem_range.2 hr,fun hd=>h (of_decide_eq_true hd)⟩
theorem zO {a b:aL}(h:∀r,r<16→ed (ax (cM a r)) (ax (cM b r))=[]):ck a b=true:=by
 unfold ck;rw[List.all_eq_true];intro r hr;exact decide_eq_true (h r (List.mem_range.1 hr))
theorem y5 {xs:List bo}(y:List bo)(h:xs.length=0):ed (ax xs) y=[]:=by
 obtain rfl:=List.eq_nil_of_length_eq_zero h;show dV (ax []) _=[];simp[ax,dV]
def kX (l:List gw)(r:Nat):List bo:=l.filterMap fun d=>if dD d.rep d.num=true∧d.rep=(r:Int) then some (d.num,d.num) else none
theorem oy {l:List gw}{i:Nat}{d:gw}(h:l[i]?=some d)(r:Nat):kX (l.take (i+1)) r=kX (l.take i) r++if dD d.rep d.num=true∧d.rep=(r:Int) then [(d.num,d.num)] else []:=by
 rw[List.take_add_one,h];unfold kX;rw[List.filterMap_append]
 congr 1
 by_cases e:dD d.rep d.num=true∧d.rep=(r:Int)
 ·
  rw[if_pos e];simp only[Option.toList,List.filterMap_cons,List.filterMap_nil,if_pos e]
 ·
  rw[if_neg e];simp only[Option.toList,List.filterMap_cons,List.filterMap_nil,if_neg e]
theorem tU (l:List gw)(r:Nat):(kX l r).length≤l.length:=List.length_filterMap_le _ _
def nk (fr:Nat→List bo):aL:=fW fun r=>ax (fr r)
theorem CI (l:List gw):nk (kX l)=l0 l:=by
 unfold nk l0 hJ aN;refine pz fun r hr=>yu fun n h1 h2=>?_;unfold cM;simp only[List.getElem?_nil,List.nil_append];unfold kX bS bG;constructor
 ·
  rintro ⟨x,hx,h3,h4⟩;obtain⟨d,hd,he⟩:=List.mem_filterMap.1 hx
  split at he
  ·
   rename_i hc;cases he;exact⟨_,List.mem_filterMap.2 ⟨⟨d.rep,d.num,d.num⟩,List.mem_map.2 ⟨d,hd,rfl⟩,if_pos hc.2⟩,h3,h4⟩
  ·
   cases he
 ·
  rintro ⟨x,hx,h3,h4⟩;obtain⟨s,hs,he⟩:=List.mem_filterMap.1 hx;obtain⟨d,hd,rfl⟩:=List.mem_map.1 hs
  split at he
  ·
   rename_i hc;cases he;simp only at h3 h4 hc;refine⟨_,List.mem_filterMap.2 ⟨d,hd,if_pos ⟨?_,hc⟩⟩,h3,h4⟩;unfold dD;rw[dI]at h2;simp only[Bool.and_eq_true,decide_eq_true_eq];omega
  ·
   cases he
theorem jA (p:aL):(hJ p).ab.length≤16 * (p.ab.length+1):=by
 have:=rL (fr:=cM p) (B:=p.ab.length+1) (fun r _=>ek p r) 16 (Nat.le_refl _);exact this
theorem nP:∀(k:Nat) (x y:List bo),x.length+y.length≤k→(dV x y).length≤x.length+y.length
 | _,[],y,_=>by simp[dV]
 | _,_::_,[],_=>by simp[dV]
 | 0,_::_,_::_,h=>by simp at h
 | k + 1, a :: x, b :: y, h => by
   simp only[List.length_cons]at h;rw[pW,List.length_append];have h1:=nP k x (b::y) (by simp only[List.length_cons];omega);have h2:=nP k (a::x) y (by simp only[List.length_cons];omega);simp only[List.length_cons]at h1 h2 ⊢
   split<;>split<;>simp<;>omega
theorem mT (a b:aL)(r:Nat):(ed (aN a r) (aN b r)).length≤a.ab.length+b.ab.length+3:=by
 unfold ed;have h1:=nP _ (aN a r) (lu 1 (aN b r)) (Nat.le_refl _);have h2:=pY (aN b r) 1;have h3:=cD (cM a r);have h4:=cD (cM b r);have h5:=ek a r;have h6:=ek b r;unfold aN at *;omega
def ox (a b:aL)(r k:Nat):List bo:=if k<r then ed (aN a k) (aN b k) else cM a k
theorem Ei (a b:aL)(r:Nat):ox a b r r=cM a r:=if_neg (Nat.lt_irrefl r)
theorem CN (a b:aL)(r:Nat):ox a b (r+1) r=ed (aN a r) (aN b r):=if_pos (Nat.lt_succ_self r)
theorem Cn {a b:aL}{r k:Nat}(h:k≠r):ox a b (r+1) k=ox a b r k:=by
 unfold ox
 by_cases h1:k<r
 ·
  rw[if_pos h1,if_pos (by omega)]
 ·
  rw[if_neg h1,if_neg (by omega)]
theorem Bd (a b:aL):nk (ox a b 16)=j4 a b:=by
 unfold nk j4;refine pz fun r hr=>?_;unfold ox;rw[if_pos hr,tD (kF (bx a r) (bx b r))]
theorem Eh {a b:aL}(ha:a.ab.length≤10000000000)(hb:b.ab.length≤10000000000):∀r,r<16→(ox a b 16 r).length≤100000000000:=fun r hr=>by
 unfold ox;rw[if_pos hr];have:=mT a b r;omega
end Go.Proofs.YtkjabaihpkbfhaaGreat.Wk
namespace Go.Proofs.YtkjabaihpkbfhaaGreat.Wk
open Go Go.RowKit Go.Proofs.YtkjabaihpkbfhaaGreat Go.Proofs.YtkjabaihpkbfhaaGreat.K Go.Proofs.YtkjabaihpkbfhaaGreat.T
theorem tg (W:World)(A:Option Addr)(c:Nat)(ps:List PL)(hR:AS W A c ps)(hE:∀p∈ps,p.ok W)(hn:ps.length≤1000000000000)(ht:cN (ps.map PL.d)≤1000000000000):Calls Tryz.prog 191 #[.slice A (ps).length c] W fun e w'=>∃t ls,e=.returned (.pointer (some ⟨t,0,none⟩))∧ia ls (gl (ps.map PL.d))∧Sat W w' [jU 355 t ls,bt (ls.map (Loc.jn 357))]:=by
 refine enter Tryz.func191 rfl rfl rfl (.cons (i:=0) rfl .nil) ?_;have hS:=Sat.start W;refine uC 7 ?_;intro a hA;refine o1 0 hA (aP hA rfl DU) ?_;clear hA a;refine uB rfl hS ?_;clear hS;intro b10 w hS;refine uO 7 ?_;refine u1 4 (ar rfl fK) ?_;intro a hA;refine wp_loop_ghost (fun (mm:Nat) a w=>∃(i:Nat) (ls:List (Loc bo)),Ag a 78 [(3,.pointer (some ⟨b10,0,none⟩)),(11,.slice A (ps).length c),(12,.int .i64 ((ps.length:Nat):Int)),(13,.int .i64 ((i:Nat):Int))]∧Sat W w ([jU 355 b10 ls,bt (ls.map (Loc.jn 357))])∧(i≤ps.length)∧(ia ls (gl ((ps.map PL.d).take i)))∧mm=ps.length-i) ps.length ?_ ?_
 ·replace hA:=hA.kp [3,11,12,13] rfl;have hS1:Sat W w [jU 355 b10 (List.replicate 16 wh),bt ((List.replicate 16 wh).map (Loc.jn 357))]:=(rj 357 hS 16).p 1;exact⟨0,_,hA,hS1,(by omega),(by exact sj),by omega⟩
 intro m a w hI;clear hS hA;obtain⟨i,ls,hA,hS,hi,hT,rfl⟩:=hI;refine rC 2 hA ?_;clear hA a;refine aR 0 0 (aw rfl rfl) ?_ ?_
 ·intro h14;refine uO 10 ?_;obtain⟨A_p,rfl⟩:∃q,A=some q:=(hR.sat hS).av (by omega);obtain⟨p,hp⟩:∃zz_,ps[i]?=some zz_:=⟨_,List.getElem?_eq_getElem (by omega)⟩;have hpo:=hE p (List.mem_of_getElem? hp);have hsp:=wP (kK hp);obtain⟨va,vc,ca,cc,d⟩:=p;have hpv:j0 W va vc d.vec:=hpo.vec;have hpc:gK W ca cc d.ab:=hpo.ab;intro a hA;dsimp only at hsp;refine o1 0 hA (aj (hA.ev rfl) (hA.ev rfl) fK aC (by omega) (by omega)) ?_;clear hA a;refine u1 0 (ad (cs:=ot (⟨va,vc,ca,cc,d⟩:PL)) rfl a6 aC (fun j u e=>bJ (hR.sat hS) (lj hp j u e))) ?_;refine uN dL hS ?_;clear hS;intro b5 w hS;refine uW (vs:=[_,_]) (cs':=[_,_]) rfl rfl aC hS ?_;clear hS;intro w hS;refine uO 5 ?_;refine u1 0 (aa rfl cw) ?_;refine u1 0 (ld rfl cW) ?_;refine u1 0 (ar rfl aE) ?_;refine u1 4 (x4 rfl rfl) ?_;intro a hA
  refine wp_loop_ghost (fun (mm:Nat) a w=>∃(j:Nat) (ls:List (Loc bo)),Ag a 78 [(3,.pointer (some ⟨b10,0,none⟩)),(11,.slice (some A_p) (ps).length c),(12,.int .i64 ((ps.length:Nat):Int)),(13,.int .i64 ((i:Nat):Int)),(5,.pointer (some ⟨b5,0,none⟩)),(20,.int .i64 (min (d.vec.length:Int) 16)),(21,.int .i64 ((j:Nat):Int))]∧Sat W w ([a8 b5 (.cells #[.slice va d.vec.length vc,.slice ca d.ab.length cc] 63),jU 355 b10 ls,bt (ls.map (Loc.jn 357))])∧(j≤min d.vec.length 16)∧(ia ls (dp ((ps.map PL.d).take i) d j 0))∧mm=min d.vec.length 16-j) (min d.vec.length 16) ?_ ?_
  ·replace hA:=hA.kp [3,11,12,13,5,20,21] rfl;exact⟨0,_,hA,hS,(by omega),(by exact hT.congr fun r hr=>(rP _ d r).symm),by omega⟩
  intro m a w hI;clear hS hA;obtain⟨j,ls,hA,hS,hj,hT,rfl⟩:=hI;refine rC 2 hA ?_;clear hA a;refine aR 0 0 (aw rfl rfl) ?_ ?_
  ·intro h22;obtain⟨lA,lc,hl⟩:=hT.get (show j<16 by omega);have hlen:=nO ((ps.map PL.d).take i) d j 0 j;intro a hA;replace hS:Sat W w (eX 357 lA lc (dp ((ps.map PL.d).take i) d j 0 j)::_):=(hS.p 2).dN (qp hl);refine rO 14 hA ?_;clear hA a;intro a hA;refine bh [14,17] hS (by kernel_rfl) ?_;replace hS:=hS.drew;refine rX [0,1,2,3] hA ?_;clear hA a;refine bz 4 [] rfl (fun w=>(a7 rfl)) ?_;refine bz 5 [] rfl (fun w=>(aW rfl rfl lK iV (by omega) (by omega))) ?_;refine cT 6 [] rfl (by exact⟨[],hS⟩) (fun w hT=>have hS:=hT.sat;(aq rfl kT (gT (hS.p 3) hl))) ?_;refine bz 7 [] rfl (fun w=>(aa rfl cw)) ?_;refine cT 8 [9] rfl (by exact⟨[],hS⟩) (fun w hT=>have hS:=hT.sat;(ld rfl cW)) ?_;obtain⟨va_p,rfl⟩:∃q,va=some q:=(hpv.sat hS).av (by omega)
   obtain⟨v,hv⟩:∃zz_,d.vec[j]?=some zz_:=⟨_,List.getElem?_eq_getElem (by omega)⟩;refine bz 10 [] rfl (fun w=>(aj rfl rfl aE fQ (by omega) (by omega))) ?_;refine cT 11 [] rfl (by exact⟨[],hS⟩) (fun w hT=>have hS:=hT.sat;(aq rfl aQ (gb (hpv.sat hS) (bu hv)))) ?_;intro a hA;refine P1 12 [] hA rfl (fun w=>(aP hA rfl kC)) ?_;clear hA a;refine bz 15 [] rfl (fun w=>(a7 rfl)) ?_;intro a hA;refine aG 13 (by kernel_rfl) ?_;refine vI (vss:=[[_,_]]) hA rfl rfl rfl bU iy rfl rfl rfl (by simp) rfl hS ?_;clear hA a hS;intro A37 w hS;intro a hA;refine⟨.inr fun _=>(by exact⟨[_],hS⟩),?_⟩;refine aG 14 (by kernel_rfl) ?_;refine eA hA rfl rfl rfl rfl bU iy rfl (hS.p 1) (hS.rd.src bU (by simp[Value.oneCell'])) (by omega) (by omega) ?_;clear hA a hS;intro A38 c38 w hc38 hS;intro a hA;refine⟨.inl rfl,?_⟩
   refine P1 16 [] hA rfl (fun w=>(aW (hA.ev rfl) (hA.ev rfl) lK iV (by omega) (by omega))) ?_;clear hA a;intro a hA;refine aG 17 (by kernel_rfl) ?_;refine eT (i:=j) ⟨A38,c38,dp ((ps.map PL.d).take i) d j 0 j++[(1,v)]⟩ hA rfl rfl (by simp) rfl (by simp[Loc.v]) kT iV (hS.p 4) hl ?_;clear hS;intro w hS;refine⟨.inl rfl,?_⟩;refine ak (by kernel_rfl) ?_ _;refine rE 3 hA ?_;clear hA a;refine u1 2 (ah rfl rfl (by omega) (by omega)) ?_;intro a hA;replace hA:=hA.kp [3,11,12,13,5,20,21] rfl;have hS2:=s5 hl (l':=⟨A38,c38,dp ((ps.map PL.d).take i) d j 0 j++[(1,v)]⟩) (iH (((hS.p 4).p 4).p 3) (by simp) (by simp[gW]));refine⟨min d.vec.length 16-(j+1),by omega,j+1,_,hA,rb ((hS2.p 2).p 2),by omega,?_,rfl⟩;exact hT.set (mi hv).2.symm fun k hk hne=>(mi hv).1 k hne
  ·intro h22;refine uO 11 ?_;refine u1 0 (aa rfl bZ) ?_;refine u1 0 (ld rfl eM) ?_;refine u1 4 (ar rfl dm) ?_;intro a hA;refine wp_loop_ghost (fun (mm:Nat) a w=>∃(k:Nat) (ls:List (Loc bo)),Ag a 78 [(3,.pointer (some ⟨b10,0,none⟩)),(11,.slice (some A_p) (ps).length c),(12,.int .i64 ((ps.length:Nat):Int)),(13,.int .i64 ((i:Nat):Int)),(43,.slice ca (d.ab).length cc),(44,.int .i64 ((d.ab.length:Nat):Int)),(45,.int .i64 ((k:Nat):Int))]∧Sat W w ([jU 355 b10 ls,bt (ls.map (Loc.jn 357))])∧(k≤d.ab.length)∧(ia ls (dp ((ps.map PL.d).take i) d (min d.vec.length 16) k))∧mm=d.ab.length-k) d.ab.length ?_ ?_
   ·replace hA:=hA.kp [3,11,12,13,43,44,45] rfl;exact⟨0,_,hA,hS.drop,(by omega),(by have hj:j=min d.vec.length 16:=(by omega);rw[←hj];exact hT),by omega⟩
   intro m a w hI;clear hS hA;obtain⟨k,ls,hA,hS,hk,hT,rfl⟩:=hI;refine rC 2 hA ?_;clear hA a;refine aR 0 0 (aw rfl rfl) ?_ ?_
   ·intro h46;refine uO 10 ?_;obtain⟨ca_p,rfl⟩:∃q,ca=some q:=(hpc.sat hS).av (by omega);obtain⟨s,hs⟩:∃zz_,d.ab[k]?=some zz_:=⟨_,List.getElem?_eq_getElem (by omega)⟩;refine u1 0 (aj rfl rfl dm cA (by omega) (by omega)) ?_;refine u1 0 (ad (cs:=gx s) rfl i6 cA (fun j u e=>bJ (hpc.sat hS) (dC hs j u e))) ?_;refine uN mg hS ?_;clear hS;intro b8 w hS;refine uW (vs:=[_,_,_]) (cs':=[_,_,_]) rfl rfl cA hS ?_;clear hS;intro w hS;refine uO 4 ?_;refine u1 0 (aa rfl bV) ?_;refine u1 0 (ld rfl aQ) ?_;refine aR 0 0 (eo rfl rfl) ?_ ?_
    ·intro h51;refine uO 1 ?_;refine u1 0 (aa rfl bV) ?_;refine u1 0 (ld rfl aQ) ?_;refine aR 0 0 (aw rfl rfl) ?_ ?_
     ·intro h55;obtain⟨lA,lc,hl⟩:=hT.get (show s.rep.toNat<16 by omega);have hlen:=nO ((ps.map PL.d).take i) d (min d.vec.length 16) k s.rep.toNat;intro a hA;replace hS:Sat W w (eX 357 lA lc (dp ((ps.map PL.d).take i) d (min d.vec.length 16) k s.rep.toNat)::_):=(hS.p 2).dN (qp hl);refine rO 4 hA ?_;clear hA a;intro a hA;refine jh [18] (lr W [bt ((ls.map (Loc.jn 357)).eraseIdx s.rep.toNat),a8 b8 (.cells #[.int .i64 s.rep,.int .i64 s.lo,.int .i64 s.hi] 219),jU 355 b10 ls]) (by kernel_rfl) ?_;replace hS:=hS.drew;refine rX [0] hA ?_;clear hA a
      refine bz 1 [] rfl (fun w=>(aa rfl bV)) ?_;refine cT 2 [3] rfl (by exact⟨[_],hS⟩) (fun w hT=>have hS:=hT.sat;(ld rfl aQ)) ?_;refine bz 4 [] rfl (fun w=>(aa rfl bV)) ?_;refine cT 5 [] rfl (by exact⟨[_],hS⟩) (fun w hT=>have hS:=hT.sat;(ld rfl aQ)) ?_;refine bz 6 [] rfl (fun w=>(a7 rfl)) ?_;refine bz 7 [] rfl (fun w=>(aW rfl rfl lK iV (by omega) (by omega))) ?_;refine cT 8 [] rfl (by exact⟨[_],hS⟩) (fun w hT=>have hS:=hT.sat;(aq rfl kT (gT (hS.p 2) hl))) ?_;refine bz 9 [] rfl (fun w=>(aa rfl dS)) ?_;refine cT 10 [] rfl (by exact⟨[_],hS⟩) (fun w hT=>have hS:=hT.sat;(ld rfl aQ)) ?_;refine bz 11 [] rfl (fun w=>(aa rfl dR)) ?_;refine cT 12 [] rfl (by exact⟨[_],hS⟩) (fun w hT=>have hS:=hT.sat;(ld rfl aQ)) ?_;intro a hA
      refine P1 13 [] hA rfl (fun w=>(aP hA rfl kC)) ?_;clear hA a;refine bz 16 [] rfl (fun w=>(a7 rfl)) ?_;intro a hA;refine aG 14 (by kernel_rfl) ?_;refine vI (vss:=[[_,_]]) hA rfl rfl rfl bU iy rfl rfl rfl (by simp) rfl hS ?_;clear hA a hS;intro A71 w hS;intro a hA;refine⟨.inr fun _=>(by exact⟨[_,_],hS⟩),?_⟩;refine aG 15 (by kernel_rfl) ?_;refine eA hA rfl rfl rfl rfl bU iy rfl (hS.p 1) (hS.rd.src bU (by simp[Value.oneCell'])) (by omega) (by omega) ?_;clear hA a hS;intro A72 c72 w hc72 hS;intro a hA;refine⟨.inr fun _=>(by exact⟨[_,_],hS⟩),?_⟩;refine P1 17 [] hA rfl (fun w=>(aW (hA.ev rfl) (hA.ev rfl) lK iV (by omega) (by omega))) ?_;clear hA a;intro a hA;refine aG 18 (by kernel_rfl) ?_
      refine eT (i:=s.rep.toNat) ⟨A72,c72,dp ((ps.map PL.d).take i) d (min d.vec.length 16) k s.rep.toNat++[(s.lo,s.hi)]⟩ hA rfl rfl (by simp) rfl (by simp[Loc.v]) kT iV (hS.p 4) hl ?_;clear hS;intro w hS;refine⟨.inl rfl,?_⟩;refine ak (by kernel_rfl) ?_ _;refine rE 3 hA ?_;clear hA a;refine u1 2 (ah rfl rfl (by omega) (by omega)) ?_;intro a hA;replace hA:=hA.kp [3,11,12,13,43,44,45] rfl;have hS2:=s5 hl (l':=⟨A72,c72,dp ((ps.map PL.d).take i) d (min d.vec.length 16) k s.rep.toNat++[(s.lo,s.hi)]⟩) (iH ((hS.p 3).p 2) (by simp) (by simp[gW]));refine⟨d.ab.length-(k+1),by omega,k+1,_,hA,oO (hS2.p 1),by omega,?_,rfl⟩;refine hT.set ?_ fun q hq hne=>?_
      ·rw[fb hs,if_pos (by omega)]
      ·rw[fb hs,if_neg (by omega),List.append_nil]
     ·intro h55;refine uO 8 ?_;refine u1 2 (ah rfl rfl (by omega) (by omega)) ?_;intro a hA;replace hA:=hA.kp [3,11,12,13,43,44,45] rfl;refine⟨d.ab.length-(k+1),by omega,k+1,ls,hA,hS.drop,by omega,?_,rfl⟩;exact hT.congr fun q hq=>by rw[fb hs,if_neg (by omega),List.append_nil]
    ·intro h51;refine uO 12 ?_;refine u1 2 (ah rfl rfl (by omega) (by omega)) ?_;intro a hA;replace hA:=hA.kp [3,11,12,13,43,44,45] rfl;refine⟨d.ab.length-(k+1),by omega,k+1,ls,hA,hS.drop,by omega,?_,rfl⟩;exact hT.congr fun q hq=>by rw[fb hs,if_neg (by omega),List.append_nil]
   ·intro h46;refine uO 11 ?_;refine u1 2 (ah rfl rfl (by omega) (by omega)) ?_;intro a hA;replace hA:=hA.kp [3,11,12,13] rfl;refine⟨ps.length-(i+1),by omega,i+1,ls,hA,hS,by omega,?_,rfl⟩;rw[aD (kK hp)];exact hT.congr fun r hr=>nK hr (by omega)
 ·intro h14;refine uO 16 ?_;refine aX ?_;have hi2:i=ps.length:=by omega
  subst hi2;rw[List.take_of_length_le (by simp)]at hT;exact⟨_,_,rfl,hT,hS⟩
theorem w4 (W:World)(A:Option Addr)(n c:Nat)(xs:List Int)(hR:Rd W 1 (.slice A n c) n (xs.map (Value.int .i64)))(hn:n=xs.length)(hl:xs.length≤1000000000000):Calls Tryz.prog 244 #[.slice A n c] W fun e w'=>∃A' c',e=.returned (.slice A' xs.length c')∧Sat W w' [cI 3 A' c' xs]:=by
 refine enter Tryz.func244 rfl rfl rfl (.cons (i:=0) rfl .nil) ?_;have hS:=Sat.start W;refine uC 9 ?_;refine nb 0 0 (AI rfl rfl aE) ?_ ?_
 ·intro h4;refine uO 10 ?_;refine aX ?_;obtain rfl:A=none:=by simpa using h4
  obtain⟨h0,_⟩:=hR.nil;obtain rfl:=List.eq_nil_of_length_eq_zero (by omega:xs.length=0);exact⟨none,0,rfl,hS.aY _ _⟩
 ·intro h4;refine uO 7 ?_;intro a hA;refine F6 hA rfl aE jQ hS ?_;clear hA a hS;intro A5 w hS;refine uO 1 ?_;intro a hA;refine dy hA rfl rfl rfl aE jQ rfl hS ((hR.sat hS).src aE (y1 xs)) (by omega) (by omega) ?_;clear hA a hS;intro A7 c7 w hc7 hS;refine uO 4 ?_;refine aX ?_;simp only[Nat.zero_add,List.nil_append]at hS ⊢;exact⟨_,_,pX hn,iH hS hn rfl⟩
theorem lE (W:World)(W0:World)(L0:List As)(t:Nat)(ls:List (Loc bo))(fr:Nat→List bo)(s0:Sat W0 W (jU 355 t ls::bt (ls.map (Loc.jn 357))::L0))(hT:ia ls fr)(hb:∀r,r<16→(fr r).length≤100000000000):Calls Tryz.prog 192 #[.pointer (some ⟨t,0,none⟩)] W fun e w'=>∃q:PL,e=.returned (.agg #[.slice q.va q.d.vec.length q.vc,.slice q.ca q.d.ab.length q.cc])∧q.d=nk fr∧Sat W w' [cI 3 q.va q.vc q.d.vec,bK 219 q.ca q.cc q.d.ab]:=by
 refine enter Tryz.func192 rfl rfl rfl (.cons (i:=0) rfl .nil) ?_;have hS:=Sat.start W;refine uC 2 ?_;refine uN dL hS ?_;clear hS;intro b2 w hS;refine uO 4 ?_;refine uN dL hS ?_;clear hS;intro b3 w hS;refine uO 4 ?_;intro a hA;refine LI hA rfl rfl rfl aE jQ rfl (by decide) (by decide) hS ?_;clear hA a hS;intro b11 w hS;refine uO 15 ?_;intro a hA
 refine wp_loop_ghost (fun (mm:Nat) a w=>∃(r:Nat) (Ac:Option Addr) (cc:Nat),Ag a 59 [(0,.pointer (some ⟨t,0,none⟩)),(2,.pointer (some ⟨b2,0,none⟩)),(3,.pointer (some ⟨b3,0,none⟩)),(4,.slice (some ⟨b11,0,none⟩) 16 16),(5,.int .i64 (((cB (bj (fun r=>ax (fr r))) r):Nat):Int)),(12,.int .i64 ((r:Nat):Int))]∧Sat W w ([a8 b3 (.cells #[.slice none 0 0,.slice Ac (((List.range r).flatMap (aS (fun r=>ax (fr r))))).length cc] 63),bK 219 Ac cc ((List.range r).flatMap (aS (fun r=>ax (fr r)))),a8 b11 (.cells (((List.range (r)).map (bj (fun r=>ax (fr r)))++List.replicate (16-(r)) 0).map (Value.int .i64)).toArray 3 (0,0)),a8 b2 (.cells #[.slice none 0 0,.slice none 0 0] 63)])∧(r≤16)∧mm=16-r) 16 ?_ ?_
 ·replace hA:=hA.kp [0,2,3,4,5,12] rfl;exact⟨0,none,0,hA,(((((hS.aY 219 3).p 3).p 2).p 2).p 3),(by omega),by omega⟩
 intro m a w hI;clear hS hA;obtain⟨r,Ac,cc,hA,hS,hr,rfl⟩:=hI;refine rC 2 hA ?_;clear hA a;refine aR 0 0 (aw rfl rfl) ?_ ?_
 ·intro h13;obtain⟨lA,lc,hl⟩:=hT.get (show r<16 by omega);have hrd:j8 W lA lc (fr r):=ry s0.qV hl;have hbr:=hb r (by omega);have hlead:=ob (et (fr r));have hrl:(aT (ax (fr r))).2.length≤100000000000:=Nat.le_trans (lL _) (Nat.le_trans (cD _) hbr);have hcl:=rL hb r (by omega);intro a hA;rw[dI]at hlead;refine rO 18 hA ?_;clear hA a;refine u1 0 (a7 rfl) ?_;refine u1 0 (aW rfl rfl lK iV (by omega) (by omega)) ?_;refine u1 0 (aq rfl kT (CW s0 hS hl)) ?_;refine uF IC rfl (zU _ lA lc (fr r) (hrd.sat hS) (by omega)) ?_;rintro e w ⟨A21,c21,rfl,hT2⟩;replace hS:=hS.aB hT2;clear hT2;refine⟨_,rfl,?_⟩;refine uO 1 ?_;refine u1 0 (au rfl rfl) ?_;refine u1 9 (au rfl rfl) ?_;refine u1 0 (aj rfl rfl aE fQ (by omega) (by omega)) ?_;intro a hA
  refine JF (j:=r) hA rfl (by rw[add_lit];simp) rfl aQ fQ rfl (hS.p 3) (Fz (by omega)) ?_;clear hS;intro w hS;rw[HV (f:=(bj (fun r=>ax (fr r)))) (show r<16 by omega) (aT (ax (fr r))).1 rfl]at hS;refine rO 6 hA ?_;clear hA a;refine aR 0 0 (dv rfl rfl) ?_ ?_
  ·intro h29;refine uO 5 ?_;refine u1 6 (ah rfl rfl (by omega) (by omega)) ?_;refine u1 4 (ar rfl bU) ?_;intro a hA
   refine wp_loop_ghost (fun (mm:Nat) a w=>∃(q sz:Nat) (Ac:Option Addr) (cc:Nat),Ag a 59 [(0,.pointer (some ⟨t,0,none⟩)),(2,.pointer (some ⟨b2,0,none⟩)),(3,.pointer (some ⟨b3,0,none⟩)),(4,.slice (some ⟨b11,0,none⟩) 16 16),(5,.int .i64 ((sz:Nat):Int)),(6,.int .i64 ((r:Nat):Int)),(12,.int .i64 ((r:Nat):Int)),(32,.slice A21 ((aT (ax (fr r))).2).length c21),(33,.int .i64 (((aT (ax (fr r))).2.length:Nat):Int)),(34,.int .i64 ((q:Nat):Int))]∧Sat W w ([a8 b3 (.cells #[.slice none 0 0,.slice Ac ((((List.range r).flatMap (aS (fun r=>ax (fr r))))++((aT (ax (fr r))).2.take q).map (jR r))).length cc] 63),bK 219 Ac cc (((List.range r).flatMap (aS (fun r=>ax (fr r))))++((aT (ax (fr r))).2.take q).map (jR r)),eX 357 A21 c21 (aT (ax (fr r))).2,a8 b11 (.cells (((List.range (r+1)).map (bj (fun r=>ax (fr r)))++List.replicate (16-(r+1)) 0).map (Value.int .i64)).toArray 3 (0,0)),a8 b2 (.cells #[.slice none 0 0,.slice none 0 0] 63)])∧(q≤(aT (ax (fr r))).2.length)∧(sz=cB (bj (fun r=>ax (fr r))) (r+1))∧mm=(aT (ax (fr r))).2.length-q) (aT (ax (fr r))).2.length ?_ ?_
   ·replace hA:=hA.kp [0,2,3,4,5,6,12,32,33,34] rfl
    have hS1:Sat W w [a8 b3 (.cells #[.slice none 0 0,.slice Ac ((((List.range r).flatMap (aS (fun r=>ax (fr r))))++((aT (ax (fr r))).2.take 0).map (jR r))).length cc] 63),bK 219 Ac cc (((List.range r).flatMap (aS (fun r=>ax (fr r))))++((aT (ax (fr r))).2.take 0).map (jR r)),eX 357 A21 c21 (aT (ax (fr r))).2,a8 b11 (.cells (((List.range (r+1)).map (bj (fun r=>ax (fr r)))++List.replicate (16-(r+1)) 0).map (Value.int .i64)).toArray 3 (0,0)),a8 b2 (.cells #[.slice none 0 0,.slice none 0 0] 63)]:=by
     simp only[List.take_zero,List.map_nil,List.append_nil];exact (((((hS.p 4).p 1).p 2).p 4).p 4)
    exact⟨0,r+1,Ac,cc,hA,hS1,(by omega),(by rw[cB,if_pos (show 0<(bj (fun r=>ax (fr r))) r from h29)]),by omega⟩
   intro m a w hI;clear hS hA;obtain⟨q,sz,Ac,cc,hA,hS,hq,hsz,rfl⟩:=hI;refine rC 2 hA ?_;clear hA a;refine aR 0 0 (aw rfl rfl) ?_ ?_
   ·intro h35;refine uO 10 ?_;obtain⟨A21_p,rfl⟩:∃q,A21=some q:=(hS.p 2).rd.av (by omega);obtain⟨x,hx⟩:∃zz_,(aT (ax (fr r))).2[q]?=some zz_:=⟨_,List.getElem?_eq_getElem (by omega)⟩;intro a hA
    have hcl2:(((List.range r).flatMap (aS (fun r=>ax (fr r))))++((aT (ax (fr r))).2.take q).map (jR r)).length≤r * 100000000000+q:=by
     rw[List.length_append,List.length_map,List.length_take];omega
    refine o1 0 hA (aj (hA.ev rfl) (hA.ev rfl) bU cS (by omega) (by omega)) ?_;clear hA a;refine u1 0 (ad (cs:=gW x) rfl lM cS (fun j u e=>bJ (hS.p 2).rd (eJ hx j u e))) ?_;refine uN o7 hS ?_;clear hS;intro b10 w hS;refine uW (vs:=[_,_]) (cs':=[_,_]) rfl rfl cS hS ?_;clear hS;intro w hS;refine uO 3 ?_;refine u1 0 (aa rfl bZ) ?_;refine u1 1 (ld rfl eM) ?_;refine u1 0 (aa rfl gH) ?_;refine u1 0 (ld rfl aQ) ?_;refine u1 0 (aa rfl dU) ?_;refine u1 0 (ld rfl aQ) ?_;intro a hA;refine o1 0 hA (aP hA rfl jy) ?_;clear hA a;intro a hA;refine ji (vss:=[[_,_,_]]) hA rfl rfl dm o0 rfl rfl rfl (by simp) rfl hS ?_;clear hA a hS;intro A46 w hS;intro a hA;refine dy hA rfl rfl rfl dm o0 rfl (hS.p 3) (hS.rd.src dm (by simp[Value.oneCell'])) (by omega) (by omega) ?_
    clear hA a hS;intro A47 c47 w hc47 hS;refine u1 0 (aa rfl bZ) ?_;intro a hA;refine mj (cs':=[_,_]) hA rfl rfl eM Ef rfl (hS.p 3) rfl rfl ?_;clear hS;intro w hS;refine rO 4 hA ?_;clear hA a;refine u1 2 (ah rfl rfl (by omega) (by omega)) ?_;intro a hA;replace hA:=hA.kp [0,2,3,4,5,6,12,32,33,34] rfl;have ec:(((List.range r).flatMap (aS (fun r=>ax (fr r))))++((aT (ax (fr r))).2.take q).map (jR r))++[jR r x]=(((List.range r).flatMap (aS (fun r=>ax (fr r))))++((aT (ax (fr r))).2.take (q+1)).map (jR r)):=by rw[aD hx,List.map_append,List.append_assoc];rfl
    have hS2:Sat W w (row 219 3 (.slice A47 ((((List.range r).flatMap (aS (fun r=>ax (fr r))))++((aT (ax (fr r))).2.take q).map (jR r)).length+1) c47) ((((List.range r).flatMap (aS (fun r=>ax (fr r))))++((aT (ax (fr r))).2.take q).map (jR r)).length+1) _::_):=hS.p 1;refine⟨(aT (ax (fr r))).2.length-(q+1),by omega,q+1,sz,A47,c47,hA,?_,by omega,hsz,rfl⟩;have el:(((List.range r).flatMap (aS (fun r=>ax (fr r))))++((aT (ax (fr r))).2.take q).map (jR r)).length+1=(((List.range r).flatMap (aS (fun r=>ax (fr r))))++((aT (ax (fr r))).2.take (q+1)).map (jR r)).length:=by rw[←ec];simp;omega
    rw[←ec];rw[←ec]at el;have hS3:=iH hS2 (m:=((((List.range r).flatMap (aS (fun r=>ax (fr r))))++((aT (ax (fr r))).2.take q).map (jR r))++[jR r x]).length) (cs':=((((List.range r).flatMap (aS (fun r=>ax (fr r))))++((aT (ax (fr r))).2.take q).map (jR r))++[jR r x]).flatMap gx) el (by simp[gx,jR]);rw[el]at hS3;exact (((((hS3.p 6).p 6).p 6).p 3).p 4).cZ [_,_,_,_,_]
   ·intro h35;refine uO 11 ?_;refine u1 2 (ah rfl rfl (by omega) (by omega)) ?_;intro a hA;replace hA:=hA.kp [0,2,3,4,5,12] rfl;have hq:q=(aT (ax (fr r))).2.length:=by omega
    have ec:((List.range r).flatMap (aS (fun r=>ax (fr r))))++((aT (ax (fr r))).2.take q).map (jR r)=(List.range (r+1)).flatMap (aS (fun r=>ax (fr r))):=by rw[mJ,qq,List.take_of_length_le (by omega)]
    rw[ec]at hS;rw[hsz]at hA;exact⟨16-(r+1),by omega,r+1,Ac,cc,hA,((((hS.p 4).p 4).p 3).p 3).cZ [_,_,_,_],by omega,rfl⟩
  ·intro h29;refine uO 8 ?_;refine u1 4 (ar rfl bU) ?_;intro a hA
   refine wp_loop_ghost (fun (mm:Nat) a w=>∃(q sz:Nat) (Ac:Option Addr) (cc:Nat),Ag a 59 [(0,.pointer (some ⟨t,0,none⟩)),(2,.pointer (some ⟨b2,0,none⟩)),(3,.pointer (some ⟨b3,0,none⟩)),(4,.slice (some ⟨b11,0,none⟩) 16 16),(5,.int .i64 ((sz:Nat):Int)),(6,.int .i64 ((r:Nat):Int)),(12,.int .i64 ((r:Nat):Int)),(32,.slice A21 ((aT (ax (fr r))).2).length c21),(33,.int .i64 (((aT (ax (fr r))).2.length:Nat):Int)),(34,.int .i64 ((q:Nat):Int))]∧Sat W w ([a8 b3 (.cells #[.slice none 0 0,.slice Ac ((((List.range r).flatMap (aS (fun r=>ax (fr r))))++((aT (ax (fr r))).2.take q).map (jR r))).length cc] 63),bK 219 Ac cc (((List.range r).flatMap (aS (fun r=>ax (fr r))))++((aT (ax (fr r))).2.take q).map (jR r)),eX 357 A21 c21 (aT (ax (fr r))).2,a8 b11 (.cells (((List.range (r+1)).map (bj (fun r=>ax (fr r)))++List.replicate (16-(r+1)) 0).map (Value.int .i64)).toArray 3 (0,0)),a8 b2 (.cells #[.slice none 0 0,.slice none 0 0] 63)])∧(q≤(aT (ax (fr r))).2.length)∧(sz=cB (bj (fun r=>ax (fr r))) (r+1))∧mm=(aT (ax (fr r))).2.length-q) (aT (ax (fr r))).2.length ?_ ?_
   ·replace hA:=hA.kp [0,2,3,4,5,6,12,32,33,34] rfl
    have hS1:Sat W w [a8 b3 (.cells #[.slice none 0 0,.slice Ac ((((List.range r).flatMap (aS (fun r=>ax (fr r))))++((aT (ax (fr r))).2.take 0).map (jR r))).length cc] 63),bK 219 Ac cc (((List.range r).flatMap (aS (fun r=>ax (fr r))))++((aT (ax (fr r))).2.take 0).map (jR r)),eX 357 A21 c21 (aT (ax (fr r))).2,a8 b11 (.cells (((List.range (r+1)).map (bj (fun r=>ax (fr r)))++List.replicate (16-(r+1)) 0).map (Value.int .i64)).toArray 3 (0,0)),a8 b2 (.cells #[.slice none 0 0,.slice none 0 0] 63)]:=by
     simp only[List.take_zero,List.map_nil,List.append_nil];exact (((((hS.p 4).p 1).p 2).p 4).p 4)
    exact⟨0,(cB (bj (fun r=>ax (fr r))) r),Ac,cc,hA,hS1,(by omega),(by rw[cB,if_neg (show ¬0<(bj (fun r=>ax (fr r))) r from h29)]),by omega⟩
   intro m a w hI;clear hS hA;obtain⟨q,sz,Ac,cc,hA,hS,hq,hsz,rfl⟩:=hI;refine rC 2 hA ?_;clear hA a;refine aR 0 0 (aw rfl rfl) ?_ ?_
   ·intro h35;refine uO 10 ?_;obtain⟨A21_p,rfl⟩:∃q,A21=some q:=(hS.p 2).rd.av (by omega);obtain⟨x,hx⟩:∃zz_,(aT (ax (fr r))).2[q]?=some zz_:=⟨_,List.getElem?_eq_getElem (by omega)⟩;intro a hA
    have hcl2:(((List.range r).flatMap (aS (fun r=>ax (fr r))))++((aT (ax (fr r))).2.take q).map (jR r)).length≤r * 100000000000+q:=by
     rw[List.length_append,List.length_map,List.length_take];omega
    refine o1 0 hA (aj (hA.ev rfl) (hA.ev rfl) bU cS (by omega) (by omega)) ?_;clear hA a;refine u1 0 (ad (cs:=gW x) rfl lM cS (fun j u e=>bJ (hS.p 2).rd (eJ hx j u e))) ?_;refine uN o7 hS ?_;clear hS;intro b10 w hS;refine uW (vs:=[_,_]) (cs':=[_,_]) rfl rfl cS hS ?_;clear hS;intro w hS;refine uO 3 ?_;refine u1 0 (aa rfl bZ) ?_;refine u1 1 (ld rfl eM) ?_;refine u1 0 (aa rfl gH) ?_;refine u1 0 (ld rfl aQ) ?_;refine u1 0 (aa rfl dU) ?_;refine u1 0 (ld rfl aQ) ?_;intro a hA;refine o1 0 hA (aP hA rfl jy) ?_;clear hA a;intro a hA;refine ji (vss:=[[_,_,_]]) hA rfl rfl dm o0 rfl rfl rfl (by simp) rfl hS ?_;clear hA a hS;intro A46 w hS;intro a hA;refine dy hA rfl rfl rfl dm o0 rfl (hS.p 3) (hS.rd.src dm (by simp[Value.oneCell'])) (by omega) (by omega) ?_
    clear hA a hS;intro A47 c47 w hc47 hS;refine u1 0 (aa rfl bZ) ?_;intro a hA;refine mj (cs':=[_,_]) hA rfl rfl eM Ef rfl (hS.p 3) rfl rfl ?_;clear hS;intro w hS;refine rO 4 hA ?_;clear hA a;refine u1 2 (ah rfl rfl (by omega) (by omega)) ?_;intro a hA;replace hA:=hA.kp [0,2,3,4,5,6,12,32,33,34] rfl;have ec:(((List.range r).flatMap (aS (fun r=>ax (fr r))))++((aT (ax (fr r))).2.take q).map (jR r))++[jR r x]=(((List.range r).flatMap (aS (fun r=>ax (fr r))))++((aT (ax (fr r))).2.take (q+1)).map (jR r)):=by rw[aD hx,List.map_append,List.append_assoc];rfl
    have hS2:Sat W w (row 219 3 (.slice A47 ((((List.range r).flatMap (aS (fun r=>ax (fr r))))++((aT (ax (fr r))).2.take q).map (jR r)).length+1) c47) ((((List.range r).flatMap (aS (fun r=>ax (fr r))))++((aT (ax (fr r))).2.take q).map (jR r)).length+1) _::_):=hS.p 1;refine⟨(aT (ax (fr r))).2.length-(q+1),by omega,q+1,sz,A47,c47,hA,?_,by omega,hsz,rfl⟩;have el:(((List.range r).flatMap (aS (fun r=>ax (fr r))))++((aT (ax (fr r))).2.take q).map (jR r)).length+1=(((List.range r).flatMap (aS (fun r=>ax (fr r))))++((aT (ax (fr r))).2.take (q+1)).map (jR r)).length:=by rw[←ec];simp;omega
    rw[←ec];rw[←ec]at el;have hS3:=iH hS2 (m:=((((List.range r).flatMap (aS (fun r=>ax (fr r))))++((aT (ax (fr r))).2.take q).map (jR r))++[jR r x]).length) (cs':=((((List.range r).flatMap (aS (fun r=>ax (fr r))))++((aT (ax (fr r))).2.take q).map (jR r))++[jR r x]).flatMap gx) el (by simp[gx,jR]);rw[el]at hS3;exact (((((hS3.p 6).p 6).p 6).p 3).p 4).cZ [_,_,_,_,_]
   ·intro h35;refine uO 11 ?_;refine u1 2 (ah rfl rfl (by omega) (by omega)) ?_;intro a hA;replace hA:=hA.kp [0,2,3,4,5,12] rfl;have hq:q=(aT (ax (fr r))).2.length:=by omega
    have ec:((List.range r).flatMap (aS (fun r=>ax (fr r))))++((aT (ax (fr r))).2.take q).map (jR r)=(List.range (r+1)).flatMap (aS (fun r=>ax (fr r))):=by rw[mJ,qq,List.take_of_length_le (by omega)]
    rw[ec]at hS;rw[hsz]at hA;exact⟨16-(r+1),by omega,r+1,Ac,cc,hA,((((hS.p 4).p 4).p 3).p 3).cZ [_,_,_,_],by omega,rfl⟩
 ·intro h13;obtain rfl:r=16:=by omega
  have hsz16:=mx (bj (fun r=>ax (fr r))) 16;refine uO 13 ?_;refine aR 0 0 (dv rfl rfl) ?_ ?_
  ·intro h52;refine uO 2 ?_;intro a hA;replace hA:=hA.kp [2,3,4,5,52] rfl;refine rC 4 hA ?_;clear hA a;refine u1 0 (oN rfl rfl aE fQ (by omega) (by omega)) ?_;refine uF KT rfl (w4 _ _ _ _ ((List.range (cB (bj (fun r=>ax (fr r))) 16)).map (bj (fun r=>ax (fr r)))) (yS hsz16 ▸ wJ ((hS.p 2).GU (m:=16) (BA (Nat.le_refl _)) (by decide)).rd hsz16) (by simp) (by simp;omega)) ?_;rintro e w ⟨A3,c3,rfl,hT2⟩;replace hS:=hS.aB hT2;clear hT2;refine⟨_,rfl,?_⟩;refine u1 0 (aa rfl cw) ?_;intro a hA;refine mj (cs':=[_,_]) hA rfl rfl cW fS rfl (hS.p 1) rfl rfl ?_;clear hS;intro w hS;refine rO 4 hA ?_;clear hA a;refine u1 0 (ad (cs:=[_,_]) rfl a6 aC (by exact hS.ag (xs:=[_,_]) rfl)) ?_;refine uW (vs:=[_,_]) (cs':=[_,_]) rfl rfl aC (hS.p 4) ?_;clear hS;intro w hS;refine uO 3 ?_;intro a hA
   refine gX hA rfl (dg (cs:=[_,_]) hA rfl a6 aC (by exact hS.ag (xs:=[_,_]) rfl)) ?_;exact⟨⟨A3,c3,Ac,cc,nk fr⟩,rfl,rfl,oO ((hS.p 3).p 3)⟩
  ·intro h52;refine uO 2 ?_;intro a hA;replace hA:=hA.kp [2,3,4,5,52] rfl;refine rC 5 hA ?_;clear hA a;refine u1 0 (ad (cs:=[_,_]) rfl a6 aC (by exact hS.ag (xs:=[_,_]) rfl)) ?_;refine uW (vs:=[_,_]) (cs':=[_,_]) rfl rfl aC (hS.p 3) ?_;clear hS;intro w hS;refine uO 3 ?_;intro a hA;refine gX hA rfl (dg (cs:=[_,_]) hA rfl a6 aC (by exact hS.ag (xs:=[_,_]) rfl)) ?_;have e0:cB (bj (fun r=>ax (fr r))) 16=0:=by omega
   have ef:nk fr=⟨[],(List.range 16).flatMap (aS (fun r=>ax (fr r)))⟩:=by unfold nk fW;rw[e0];rfl
   refine⟨⟨none,0,Ac,cc,nk fr⟩,by rw[ef];rfl,rfl,?_⟩;rw[ef];exact oO (Sat.aY (hS.p 2) 3 1)
def sF (s:aO)(r n:Int):Bool:=decide (s.rep=r) && decide (s.lo≤n) && decide (n≤s.hi)
theorem iD (c:List aO)(r n:Int):kg c r n=c.any fun s=>sF s r n:=rfl
theorem sn (W:World)(r n:Int)  : Calls Tryz.prog 193 #[.agg #[.int .i64 r,.int .i64 n]] W fun e w'=>e=.returned (.bool (dD r n))∧Sat W w' []:=by
 refine enter Tryz.func193 rfl rfl rfl (.cons (i:=0) rfl .nil) ?_;have hS:=Sat.start W;refine uC 2 ?_;refine uB rfl hS ?_;clear hS;intro b1 w hS;refine uO 5 ?_;refine u1 0 (aa rfl bw) ?_;refine u1 0 (ld rfl aQ) ?_;refine aR 0 0 (eo rfl rfl) ?_ ?_
 ·intro h5;refine uO 1 ?_;refine u1 0 (aa rfl bw) ?_;refine u1 0 (ld rfl aQ) ?_;refine aR 0 0 (aw rfl rfl) ?_ ?_
  ·intro h9;refine uO 2 ?_;refine u1 0 (aa rfl bQ) ?_;refine u1 0 (ld rfl aQ) ?_;refine aR 0 0 (eo rfl rfl) ?_ ?_
   ·intro h14;refine uO 2 ?_;refine u1 0 (aa rfl bQ) ?_;refine u1 0 (ld rfl aQ) ?_;refine u1 5 (du rfl rfl) ?_;refine aX ?_;refine⟨?_,hS.nil⟩;unfold dD
    congr 2
    rw[Bool.eq_iff_iff];simp only[Bool.and_eq_true,decide_eq_true_eq,Bool.false_eq_true,false_iff];omega
   ·intro h14;refine uO 10 ?_;refine aX ?_;refine⟨?_,hS.nil⟩;unfold dD
    congr 2
    rw[Bool.eq_iff_iff];simp only[Bool.and_eq_true,decide_eq_true_eq,Bool.false_eq_true,false_iff];omega
  ·intro h9;refine uO 15 ?_;refine aX ?_;refine⟨?_,hS.nil⟩;unfold dD
   congr 2
   rw[Bool.eq_iff_iff];simp only[Bool.and_eq_true,decide_eq_true_eq,Bool.false_eq_true,false_iff];omega
 ·intro h5;refine uO 19 ?_;refine aX ?_;refine⟨?_,hS.nil⟩;unfold dD
  congr 2
  rw[Bool.eq_iff_iff];simp only[Bool.and_eq_true,decide_eq_true_eq,Bool.false_eq_true,false_iff];omega
theorem CR (W:World)(A:Option Addr)(c:Nat)(xs:List Int)(B:Option Addr)(d:Nat)(ys:List Int)(hX:j0 W A c xs)(hY:j0 W B d ys)(hlx:xs.length≤1000000000000000)(hly:ys.length≤1000000000000000):Calls Tryz.prog 158 #[.slice A (xs).length c,.slice B (ys).length d] W fun e w'=>e=.returned (.bool (decide (xs=ys)))∧Sat W w' []:=by
 refine enter Tryz.func158 rfl rfl rfl (.cons (i:=0) rfl (.cons (i:=1) rfl .nil)) ?_;have hS:=Sat.start W;refine uC 9 ?_;refine u1 1 (ar rfl aE) ?_;refine u1 0 (ar rfl aE) ?_;refine aR 0 0 (aK rfl rfl) ?_ ?_
 ·intro h10;refine uO 10 ?_;refine aX ?_;refine⟨?_,hS⟩;rw[decide_eq_false];intro h;rw[h]at h10;omega
 ·intro h10;refine uO 9 ?_;refine u1 4 (ar rfl aE) ?_;intro a hA;refine wp_loop_ghost (fun (mm:Nat) a w=>∃(i:Nat),Ag a 26 [(0,.slice A (xs).length c),(1,.slice B (ys).length d),(12,.int .i64 ((xs.length:Nat):Int)),(13,.int .i64 ((i:Nat):Int))]∧Sat W w ([])∧(i≤xs.length)∧(xs.take i=ys.take i)∧mm=xs.length-i) xs.length ?_ ?_
  ·replace hA:=hA.kp [0,1,12,13] rfl;exact⟨0,hA,hS,(by omega),(by rfl),by omega⟩
  intro m a w hI;clear hS hA;obtain⟨i,hA,hS,hi,he,rfl⟩:=hI;refine rC 2 hA ?_;clear hA a;refine aR 0 0 (aw rfl rfl) ?_ ?_
  ·intro h14;refine uO 15 ?_;intro a hA;refine cF (fun w'=>Sat _ w' _) (by kernel_rfl) (by kernel_rfl) hS.drew ?_;refine rQ 2 hA ?_;clear hA a;obtain⟨A_p,rfl⟩:∃q,A=some q:=(hX.sat hS).av (by omega);obtain⟨x,hx⟩:∃zz_,xs[i]?=some zz_:=⟨_,List.getElem?_eq_getElem (by omega)⟩;refine br 0 (fun w hS=>(aj rfl rfl aE fQ (by omega) (by omega))) ?_;refine br 2 (fun w hS=>(aq rfl aQ (gb (hX.sat hS) (bu hx)))) ?_;obtain⟨B_p,rfl⟩:∃q,B=some q:=(hY.sat hS).av (by omega);obtain⟨y,hy⟩:∃zz_,ys[i]?=some zz_:=⟨_,List.getElem?_eq_getElem (by omega)⟩;refine br 0 (fun w hS=>(aj rfl rfl aE fQ (by omega) (by omega))) ?_;refine br 0 (fun w hS=>(aq rfl aQ (gb (hY.sat hS) (bu hy)))) ?_;intro a hA;refine K.se hA rfl rfl rfl (fun w hS=>(aK (hA.ev rfl) (hA.ev rfl))) ?_ ?_
   ·clear hA a;intro h24;intro a hA;refine wpQuiet_nil ?_;clear hS;intro w hS;refine rE 13 hA ?_;clear hA a;refine aX ?_;refine⟨?_,hS⟩;rw[decide_eq_false];intro h;rw[h,hy]at hx;cases hx;omega
   ·clear hA a;intro h24;intro a hA;refine wpQuiet_nil ?_;clear hS;intro w hS;refine rE 6 hA ?_;clear hA a;refine u1 2 (ah rfl rfl (by omega) (by omega)) ?_;intro a hA;replace hA:=hA.kp [0,1,12,13] rfl;refine⟨xs.length-(i+1),by omega,i+1,hA,hS,by omega,?_,rfl⟩;rw[aD hx,aD hy,he,show x=y from by omega]
  ·intro h14;refine uO 15 ?_;refine aX ?_;refine⟨?_,hS⟩;rw[decide_eq_true];rwa[List.take_of_length_le (by omega),List.take_of_length_le (by omega)]at he
theorem C2 (W:World)(A:Option Addr)(c:Nat)(xs:List aO)(B:Option Addr)(d:Nat)(ys:List aO)(hX:gK W A c xs)(hY:gK W B d ys)(hlx:xs.length≤1000000000000000)(hly:ys.length≤1000000000000000):Calls Tryz.prog 159 #[.slice A (xs).length c,.slice B (ys).length d] W fun e w'=>e=.returned (.bool (decide (xs=ys)))∧Sat W w' []:=by
 refine enter Tryz.func159 rfl rfl rfl (.cons (i:=0) rfl (.cons (i:=1) rfl .nil)) ?_;have hS:=Sat.start W;refine uC 9 ?_;refine u1 1 (ar rfl dm) ?_;refine u1 0 (ar rfl dm) ?_;refine aR 0 0 (aK rfl rfl) ?_ ?_
 ·intro h10;refine uO 10 ?_;refine aX ?_;refine⟨?_,hS⟩;rw[decide_eq_false];intro h;rw[h]at h10;omega
 ·intro h10;refine uO 9 ?_;refine u1 4 (ar rfl dm) ?_;intro a hA;refine wp_loop_ghost (fun (mm:Nat) a w=>∃(i:Nat),Ag a 26 [(0,.slice A (xs).length c),(1,.slice B (ys).length d),(12,.int .i64 ((xs.length:Nat):Int)),(13,.int .i64 ((i:Nat):Int))]∧Sat W w ([])∧(i≤xs.length)∧(xs.take i=ys.take i)∧mm=xs.length-i) xs.length ?_ ?_
  ·replace hA:=hA.kp [0,1,12,13] rfl;exact⟨0,hA,hS,(by omega),(by rfl),by omega⟩
  intro m a w hI;clear hS hA;obtain⟨i,hA,hS,hi,he,rfl⟩:=hI;refine rC 2 hA ?_;clear hA a;refine aR 0 0 (aw rfl rfl) ?_ ?_
  ·intro h14;refine uO 15 ?_;intro a hA;refine cF (fun w'=>Sat _ w' _) (by kernel_rfl) (by kernel_rfl) hS.drew ?_;refine rQ 2 hA ?_;clear hA a;obtain⟨A_p,rfl⟩:∃q,A=some q:=(hX.sat hS).av (by omega);obtain⟨x,hx⟩:∃zz_,xs[i]?=some zz_:=⟨_,List.getElem?_eq_getElem (by omega)⟩;refine br 0 (fun w hS=>(aj rfl rfl dm cA (by omega) (by omega))) ?_;refine br 2 (fun w hS=>(ad (cs:=gx x) rfl i6 cA (fun j u e=>bJ (hX.sat hS) (dC hx j u e)))) ?_;obtain⟨B_p,rfl⟩:∃q,B=some q:=(hY.sat hS).av (by omega);obtain⟨y,hy⟩:∃zz_,ys[i]?=some zz_:=⟨_,List.getElem?_eq_getElem (by omega)⟩;refine br 0 (fun w hS=>(aj rfl rfl dm cA (by omega) (by omega))) ?_;refine br 0 (fun w hS=>(ad (cs:=gx y) rfl i6 cA (fun j u e=>bJ (hY.sat hS) (dC hy j u e)))) ?_;intro a hA
   refine K.se hA rfl rfl rfl (fun w hS=>(xk (hA.ev rfl) (hA.ev rfl) GS Hb)) ?_ ?_
   ·clear hA a;intro h24;intro a hA;refine wpQuiet_nil ?_;clear hS;intro w hS;refine rE 13 hA ?_;clear hA a;refine aX ?_;refine⟨?_,hS⟩;rw[decide_eq_false];intro h;rw[h,hy]at hx;cases hx;simp at h24
   ·clear hA a;intro h24;intro a hA;refine wpQuiet_nil ?_;clear hS;intro w hS;refine rE 6 hA ?_;clear hA a;refine u1 2 (ah rfl rfl (by omega) (by omega)) ?_;intro a hA;replace hA:=hA.kp [0,1,12,13] rfl;refine⟨xs.length-(i+1),by omega,i+1,hA,hS,by omega,?_,rfl⟩;rw[aD hx,aD hy,he,show x=y from by cases x;cases y;simpa using h24]
  ·intro h14;refine uO 15 ?_;refine aX ?_;refine⟨?_,hS⟩;rw[decide_eq_true];rwa[List.take_of_length_le (by omega),List.take_of_length_le (by omega)]at he
theorem AP (W:World)(W0:World)(L0:List As)(b:Nat)(r n:Int)(s:aO)(s0:Sat W0 W (a8 b (.cells #[.int .i64 r,.int .i64 n] 214)::L0)):Calls Tryz.prog 195 #[.agg #[.int .i64 s.rep,.int .i64 s.lo,.int .i64 s.hi],.pointer (some ⟨b,0,none⟩)] W fun e w'=>e=.returned (.bool (sF s r n))∧Sat W w' []:=by
 refine enter Tryz.func195 rfl rfl rfl (.cons (i:=0) rfl (.cons (i:=1) rfl .nil)) ?_;have hS:=Sat.start W;refine uC 2 ?_;refine uB rfl hS ?_;clear hS;intro b2 w hS;refine uO 5 ?_;refine u1 0 (aa rfl bV) ?_;refine u1 0 (ld rfl aQ) ?_;refine u1 0 (aa rfl bw) ?_;refine u1 0 (aq rfl aQ (s0.qv hS rfl)) ?_;refine aR 0 0 (bn rfl rfl) ?_ ?_
 ·intro h8;refine uO 1 ?_;refine u1 0 (aa rfl dS) ?_;refine u1 0 (ld rfl aQ) ?_;refine u1 0 (aa rfl bQ) ?_;refine u1 0 (aq rfl aQ (s0.qv hS rfl)) ?_;refine aR 0 0 (du rfl rfl) ?_ ?_
  ·intro h14;refine uO 2 ?_;refine u1 0 (aa rfl bQ) ?_;refine u1 0 (aq rfl aQ (s0.qv hS rfl)) ?_;refine u1 0 (aa rfl dR) ?_;refine u1 0 (ld rfl aQ) ?_;refine u1 5 (du rfl rfl) ?_;refine aX ?_;refine⟨?_,hS.nil⟩;unfold sF
   congr 2
   rw[Bool.eq_iff_iff];simp only[Bool.and_eq_true,decide_eq_true_eq,Bool.false_eq_true,false_iff];omega
  ·intro h14;refine uO 12 ?_;refine aX ?_;refine⟨?_,hS.nil⟩;unfold sF
   congr 2
   rw[Bool.eq_iff_iff];simp only[Bool.and_eq_true,decide_eq_true_eq,Bool.false_eq_true,false_iff];omega
 ·intro h8;refine uO 18 ?_;refine aX ?_;refine⟨?_,hS.nil⟩;unfold sF
  congr 2
  rw[Bool.eq_iff_iff];simp only[Bool.and_eq_true,decide_eq_true_eq,Bool.false_eq_true,false_iff];omega
theorem uw (W:World)(W0:World)(L0:List As)(b:Nat)(r n:Int)(A:Option Addr)(c:Nat)(xs:List aO)(s0:Sat W0 W (a8 b (.cells #[.int .i64 r,.int .i64 n] 214)::L0))(hX:gK W A c xs)(hl:xs.length≤1000000000000000):Calls Tryz.prog 245 #[.slice A (xs).length c,.func (.func 195) #[] #[.pointer (some ⟨b,0,none⟩)]] W fun e w'=>∃k:Int,e=.returned (.int .i64 k)∧decide (0≤k)=kg xs r n∧Sat W w' []:=by
 refine enter Tryz.func245 rfl rfl rfl (.cons (i:=0) rfl (.cons (i:=1) rfl .nil)) ?_;have hS:=Sat.start W;refine uC 9 ?_;refine u1 4 (ar rfl dm) ?_;intro a hA;refine wp_loop_ghost (fun (mm:Nat) a w=>∃(i:Nat),Ag a 19 [(0,.slice A (xs).length c),(1,.func (.func 195) #[] #[.pointer (some ⟨b,0,none⟩)]),(7,.int .i64 ((xs.length:Nat):Int)),(8,.int .i64 ((i:Nat):Int))]∧Sat W w ([])∧(i≤xs.length)∧((xs.take i).any (fun s=>sF s r n)=false)∧mm=xs.length-i) xs.length ?_ ?_
 ·replace hA:=hA.kp [0,1,7,8] rfl;exact⟨0,hA,hS,(by omega),(by rfl),by omega⟩
 intro m a w hI;clear hS hA;obtain⟨i,hA,hS,hi,he,rfl⟩:=hI;refine rC 2 hA ?_;clear hA a;refine aR 0 0 (aw rfl rfl) ?_ ?_
 ·intro h9;refine uO 19 ?_;obtain⟨A_p,rfl⟩:∃q,A=some q:=(hX.sat hS).av (by omega);obtain⟨x,hx⟩:∃zz_,xs[i]?=some zz_:=⟨_,List.getElem?_eq_getElem (by omega)⟩;refine u1 0 (aj rfl rfl dm cA (by omega) (by omega)) ?_;refine u1 0 (ad (cs:=gx x) rfl i6 cA (fun j u e=>bJ (hX.sat hS) (dC hx j u e))) ?_;intro a hA;refine AD hA rfl JZ rfl rfl (AP _ _ _ b r n x (s0.ai hS)) ?_;rintro e w ⟨rfl,hT⟩;replace hS:Sat _ _ _:=hS.ai hT;clear hT;generalize h16:(sF x r n)=bb;cases bb
  ·refine .inl ⟨_,rfl,?_⟩;clear hA a;refine uO 7 ?_;refine u1 2 (ah rfl rfl (by omega) (by omega)) ?_;intro a hA;replace hA:=hA.kp [0,1,7,8] rfl;refine⟨xs.length-(i+1),by omega,i+1,hA,hS,by omega,?_,rfl⟩;rw[aD hx,List.any_append,he];simp[h16]
  ·refine .inl ⟨_,rfl,?_⟩;clear hA a;refine uO 15 ?_;refine aX ?_;refine⟨i,rfl,?_,hS⟩;rw[iD,decide_eq_true (by omega)];exact (List.any_eq_true.2 ⟨x,List.mem_of_getElem? hx,h16⟩).symm
 ·intro h9;refine uO 15 ?_;refine aX ?_;refine⟨-1,rfl,?_,hS⟩;rw[List.take_of_length_le (by omega)]at he;rw[iD,he];rfl
theorem nL (W:World)(W0:World)(L0:List As)(b:Nat)(r n:Int)(A:Option Addr)(c:Nat)(xs:List aO)(s0:Sat W0 W (a8 b (.cells #[.int .i64 r,.int .i64 n] 214)::L0))(hX:gK W A c xs)(hl:xs.length≤1000000000000000):Calls Tryz.prog 194 #[.slice A (xs).length c,.func (.func 195) #[] #[.pointer (some ⟨b,0,none⟩)]] W fun e w'=>e=.returned (.bool (kg xs r n))∧Sat W w' []:=by
 refine enter Tryz.func194 rfl rfl rfl (.cons (i:=0) rfl (.cons (i:=1) rfl .nil)) ?_;have hS:=Sat.start W;refine uC 9 ?_;refine uF Kn rfl (uw _ _ _ b r n A c xs (s0.ai hS) (hX.sat hS) hl) ?_;rintro e w ⟨k,rfl,hk,hT⟩;replace hS:Sat _ _ _:=hS.ai hT;clear hT;refine⟨_,rfl,?_⟩;refine u1 4 (eo rfl rfl) ?_;refine aX ?_;exact⟨by rw[hk],hS⟩
theorem vY (W:World)(p:PL)(r n:Int)(hp:p.ok W)(hlv:p.d.vec.length≤1000000000000)(hlc:p.d.ab.length≤1000000000000):Calls Tryz.prog 162 #[.agg #[.slice p.va p.d.vec.length p.vc,.slice p.ca p.d.ab.length p.cc],.agg #[.int .i64 r,.int .i64 n]] W fun e w'=>e=.returned (.bool (hasB p.d r n))∧Sat W w' []:=by
 refine enter Tryz.func162 rfl rfl rfl (.cons (i:=0) rfl (.cons (i:=1) rfl .nil)) ?_;have hS:=Sat.start W;obtain⟨va,vc,ca,cc,d⟩:=p;have hpv:j0 W va vc d.vec:=hp.vec;have hpc:gK W ca cc d.ab:=hp.ab;intro a hA;dsimp only at hlv hlc hA ⊢;refine rC 2 hA ?_;clear hA a;refine uB rfl hS ?_;clear hS;intro b2 w hS;refine uB rfl hS ?_;clear hS;intro b3 w hS;refine uO 6 ?_;refine u1 0 (ad (cs:=[_,_]) rfl gk dZ (by exact hS.ag (xs:=[_,_]) rfl)) ?_;refine uF Gy rfl (sn _ r n) ?_;rintro e w ⟨rfl,hT⟩;replace hS:Sat _ _ _:=hS.ai hT;clear hT;generalize h6:(dD r n)=bb;cases bb
 ·refine⟨_,rfl,?_⟩;refine u1 10 (aM rfl) ?_;refine aX ?_;refine⟨?_,hS.nil⟩;rw[hasB,h6];rfl
 ·refine⟨_,rfl,?_⟩;refine u1 7 (aM rfl) ?_;intro a hA;refine cF (fun w'=>Sat _ w' _) (by kernel_rfl) (by kernel_rfl) hS.drew ?_;refine Q1 0 hA (fun w hS=>(aa (hA.ev rfl) bw)) ?_;clear hA a;refine br 0 (fun w hS=>(ld rfl aQ)) ?_;refine br 0 (fun w hS=>(aa rfl cw)) ?_;refine br 0 (fun w hS=>(ld rfl cW)) ?_;refine br 0 (fun w hS=>(ar rfl aE)) ?_;intro a hA;refine K.se hA rfl rfl rfl (fun w hS=>(aw (hA.ev rfl) (hA.ev rfl))) ?_ ?_
  ·clear hA a;intro h13;have hdot:=h6;intro a hA;unfold dD at hdot;simp only[Bool.and_eq_true,decide_eq_true_eq]at hdot;refine rQ 1 hA ?_;clear hA a;refine br 0 (fun w hS=>(aa rfl bQ)) ?_;refine br 0 (fun w hS=>(ld rfl aQ)) ?_;refine br 0 (fun w hS=>(aa rfl cw)) ?_;refine br 0 (fun w hS=>(ld rfl cW)) ?_;refine br 0 (fun w hS=>(aa rfl bw)) ?_;refine br 0 (fun w hS=>(ld rfl aQ)) ?_;obtain⟨va_p,rfl⟩:∃q,va=some q:=(hpv.sat hS).av (by omega);obtain⟨v,hv⟩:∃zz_,d.vec[r.toNat]?=some zz_:=⟨_,List.getElem?_eq_getElem (by omega)⟩;refine br 0 (fun w hS=>(aj rfl rfl aE fQ (by omega) (by omega))) ?_;refine br 0 (fun w hS=>(aq rfl aQ (gb (hpv.sat hS) (bu hv)))) ?_;intro a hA;refine K.oY hA (ao hA rfl rfl rfl) rfl rfl (fun w hS=>(du (hA.ev rfl) (hA.ev rfl))) ?_ ?_
   ·clear hA a;intro h23;refine uQ 1 ?_;intro a hA;refine wpQuiet_nil ?_;clear hS;intro w hS;refine rE 9 hA ?_;clear hA a;refine aX ?_;refine⟨?_,hS.nil⟩;have hv2:iF d.vec r n=true:=by unfold iF;rw[hv];simp;omega
    rw[hasB,h6,hv2];simp
   ·clear hA a;intro h23;refine uQ 1 ?_;intro a hA;refine wpQuiet_nil ?_;clear hS;intro w hS;refine rE 6 hA ?_;clear hA a;refine u1 0 (aa rfl bZ) ?_;refine u1 0 (ld rfl eM) ?_;intro a hA;refine o1 0 hA (qz (hA.mO rfl)) ?_;clear hA a;refine uF F8 rfl (nL _ _ _ _ r n ca cc d.ab hS (hpc.sat hS) (by omega)) ?_;rintro e w ⟨rfl,hT⟩;replace hS:Sat _ _ _:=hS.ai hT;clear hT;refine⟨_,rfl,?_⟩;refine uO 3 ?_;intro a hA;replace hA:=hA.kp [4] rfl;refine rC 1 hA ?_;clear hA a;refine aX ?_;refine⟨?_,hS.nil⟩;have hv2:iF d.vec r n=false:=by unfold iF;rw[hv];simp;omega
    rw[hasB,h6,hv2];simp
  ·clear hA a;intro h13;refine uQ 11 ?_;intro a hA;refine wpQuiet_nil ?_;clear hS;intro w hS;refine rE 6 hA ?_;clear hA a;refine u1 0 (aa rfl bZ) ?_;refine u1 0 (ld rfl eM) ?_;intro a hA;refine o1 0 hA (qz (hA.mO rfl)) ?_;clear hA a;refine uF F8 rfl (nL _ _ _ _ r n ca cc d.ab hS (hpc.sat hS) (by omega)) ?_;rintro e w ⟨rfl,hT⟩;replace hS:Sat _ _ _:=hS.ai hT;clear hT;refine⟨_,rfl,?_⟩;refine uO 3 ?_;intro a hA;replace hA:=hA.kp [4] rfl;refine rC 1 hA ?_;clear hA a;refine aX ?_;refine⟨?_,hS.nil⟩;have hv2:iF d.vec r n=false:=by unfold iF;rw[List.getElem?_eq_none (by omega)]
   rw[hasB,h6,hv2];simp
theorem lG (W:World)(B:Option Addr)(d:Nat)(p:PL)(hB:Rd W 2 (.slice B 1 d) 1 ([p].flatMap ot))(hp:p.ok W)(hl:p.d.ab.length≤10000000000) :
 Calls Tryz.prog 191 #[.slice B 1 d] W fun e w'=>∃t ls,e=.returned (.pointer (some ⟨t,0,none⟩))∧ia ls (cM p.d)∧Sat W w' [jU 355 t ls,bt (ls.map (Loc.jn 357))]:=by
 refine (tg W B d [p] hB (fun q hq=>by simp at hq;subst hq;exact hp) (by simp) (by simp[cN];omega)).mono ?_;rintro e w' ⟨t,ls,he,hT,hS⟩;exact⟨t,ls,he,hT.congr fun r _=>by simp[gl],hS⟩
theorem rz {p:aL}(h:p.ab.length≤10000000000):∀r,r<16→(cM p r).length≤100000000000:=fun r _=>by have:=ek p r;omega
theorem cn (W:World)(p:PL)(hp:p.ok W)(hlc:p.d.ab.length≤10000000000):Calls Tryz.prog 157 #[.agg #[.slice p.va p.d.vec.length p.vc,.slice p.ca p.d.ab.length p.cc]] W fun e w'=>∃q:PL,e=.returned (.agg #[.slice q.va q.d.vec.length q.vc,.slice q.ca q.d.ab.length q.cc])∧q.d=hJ p.d∧Sat W w' [cI 3 q.va q.vc q.d.vec,bK 219 q.ca q.cc q.d.ab]:=by
 refine enter Tryz.func157 rfl rfl rfl (.cons (i:=0) rfl .nil) ?_;have hS:=Sat.start W;refine uC 2 ?_;refine uB rfl hS ?_;clear hS;intro b1 w hS;refine uN dL hS ?_;clear hS;intro b2 w hS;refine uO 4 ?_;refine u1 0 (ad (cs:=[_,_]) rfl a6 aC (by exact (hS.p 1).ag (xs:=[_,_]) rfl)) ?_;intro a hA;refine ji (vss:=[[_,_]]) hA rfl rfl fK pM rfl rfl rfl (by simp) rfl hS ?_;clear hA a hS;intro A4 w hS;refine uF ll rfl (lG _ _ _ p hS.rd (hp.sat hS) hlc) ?_;rintro e w ⟨t,ls,rfl,hT,hT2⟩;replace hS:Sat _ _ (_::_::_):=hS.ai hT2;clear hT2;refine⟨_,rfl,?_⟩;refine uF By rfl (lE _ _ _ t ls (cM p.d) hS hT (rz hlc)) ?_;rintro e w ⟨q,rfl,hq,hT2⟩;replace hS:Sat _ _ (_::_::_):=hS.ai hT2;clear hT2;refine⟨_,rfl,?_⟩;refine uW (vs:=[_,_]) (cs':=[_,_]) rfl rfl aC (hS.p 5) ?_;clear hS;intro w hS;refine uO 3 ?_;intro a hA
 refine gX hA rfl (dg (cs:=[_,_]) hA rfl a6 aC (by exact hS.ag (xs:=[_,_]) rfl)) ?_;exact⟨q,rfl,hq,oO ((hS.p 2).p 2)⟩
theorem lH (W:World)(A:Option Addr)(c:Nat)(ps:List PL)(hR:AS W A c ps)(hE:∀p∈ps,p.ok W)(hn:ps.length≤1000000000000)(ht:cN (ps.map PL.d)≤100000000000):Calls Tryz.prog 342 #[.slice A (ps).length c] W fun e w'=>∃q:PL,e=.returned (.agg #[.slice q.va q.d.vec.length q.vc,.slice q.ca q.d.ab.length q.cc])∧q.d=iB (ps.map PL.d)∧Sat W w' [cI 3 q.va q.vc q.d.vec,bK 219 q.ca q.cc q.d.ab]:=by
 refine enter Tryz.func342 rfl rfl rfl (.cons (i:=0) rfl .nil) ?_;have hS:=Sat.start W;refine uC 2 ?_;refine uN dL hS ?_;clear hS;intro b2 w hS;refine uO 5 ?_;refine uF ll rfl (tg _ A c ps (hR.sat hS) (fun p hp=>(hE p hp).sat hS) hn (by omega)) ?_;rintro e w ⟨t,ls,rfl,hT,hT2⟩;replace hS:Sat _ _ (_::_::_):=hS.ai hT2;clear hT2;refine⟨_,rfl,?_⟩;refine uF By rfl (lE _ _ _ t ls (gl (ps.map PL.d)) hS hT (fun r _=>Nat.le_trans (ku _ r) ht)) ?_;rintro e w ⟨q,rfl,hq,hT2⟩;replace hS:Sat _ _ (_::_::_):=hS.ai hT2;clear hT2;refine⟨_,rfl,?_⟩;refine uW (vs:=[_,_]) (cs':=[_,_]) rfl rfl aC (hS.p 4) ?_;clear hS;intro w hS;refine uO 3 ?_;intro a hA;refine gX hA rfl (dg (cs:=[_,_]) hA rfl a6 aC (by exact hS.ag (xs:=[_,_]) rfl)) ?_;exact⟨q,rfl,hq,oO ((hS.p 2).p 2)⟩
theorem fE (W:World)(p:PL)(hp:p.ok W)(hlc:p.d.ab.length≤10000000000)(hlv:p.d.vec.length≤1000000000000):Calls Tryz.prog 121 #[.agg #[.slice p.va p.d.vec.length p.vc,.slice p.ca p.d.ab.length p.cc]] W fun e w'=>e=.returned (.bool (bL p.d))∧Sat W w' []:=by
 refine enter Tryz.func121 rfl rfl rfl (.cons (i:=0) rfl .nil) ?_;have hS:=Sat.start W;refine uC 2 ?_;refine uB rfl hS ?_;clear hS;intro b1 w hS;refine uO 5 ?_;refine u1 0 (ad (cs:=[_,_]) rfl a6 aC (by exact hS.ag (xs:=[_,_]) rfl)) ?_;refine uF iZ rfl (cn _ p (hp.sat hS) hlc) ?_;rintro e w ⟨q,rfl,hq,hT⟩;have hcn:=iL p.d;rw[←hq]at hcn;have hcv:=hcn.len;have hcl:=jA p.d;rw[←hq]at hcl;replace hS:Sat _ _ (_::_::_):=hS.ai hT;clear hT;refine⟨_,rfl,?_⟩;refine uN dL hS ?_;clear hS;intro b3 w hS;refine uW (vs:=[_,_]) (cs':=[_,_]) rfl rfl aC hS ?_;clear hS;intro w hS;refine uO 4 ?_;refine u1 0 (aa rfl cw) ?_;refine u1 0 (ld rfl cW) ?_;refine u1 0 (aa rfl cw) ?_;refine u1 0 (ld rfl cW) ?_;refine uF JT rfl (CR _ p.va p.vc p.d.vec q.va q.vc q.d.vec (hp.vec.sat hS) (hS.p 1).rd (by omega) (by omega)) ?_
 rintro e w ⟨rfl,hT⟩;replace hS:Sat _ _ _:=hS.ai hT;clear hT;generalize h10:(decide (p.d.vec=q.d.vec))=bb;cases bb
 ·refine⟨_,rfl,?_⟩;refine uO 11 ?_;refine aX ?_;refine⟨?_,hS.nil⟩
  congr 2
  unfold bL;rw[←hq,eq_comm,decide_eq_false];intro h;rw[h]at h10;simp at h10
 ·refine⟨_,rfl,?_⟩;refine uO 1 ?_;refine u1 0 (aa rfl bZ) ?_;refine u1 0 (ld rfl eM) ?_;refine u1 0 (aa rfl bZ) ?_;refine u1 0 (ld rfl eM) ?_;intro a hA;refine dQ hA (ao hA rfl rfl rfl) rfl Iy rfl (C2 _ p.ca p.cc p.d.ab q.ca q.cc q.d.ab (hp.ab.sat hS) (hS.p 2).rd (by omega) (by omega)) ?_;clear hA a;rintro e w ⟨rfl,hT⟩;replace hS:Sat _ _ _:=hS.ai hT;clear hT;generalize h16:(decide (p.d.ab=q.d.ab))=bb;cases bb
  ·refine⟨_,rfl,?_⟩;refine uO 5 ?_;refine aX ?_;refine⟨?_,hS.nil⟩
   congr 2
   unfold bL;rw[←hq,eq_comm,decide_eq_false];intro h;rw[h]at h16;simp at h16
  ·refine⟨_,rfl,?_⟩;refine uO 5 ?_;refine aX ?_;refine⟨?_,hS.nil⟩
   congr 2
   unfold bL;rw[←hq,eq_comm,decide_eq_true];simp only[decide_eq_true_eq]at h10 h16;exact uV h10.symm h16.symm
theorem yA (W:World)(p:PL)(hp:p.ok W)(hlc:p.d.ab.length≤10000000000):Calls Tryz.prog 170 #[.agg #[.slice p.va p.d.vec.length p.vc,.slice p.ca p.d.ab.length p.cc]] W fun e w'=>e=.returned (.int .i64 (Bf p.d))∧Sat W w' []:=by
 refine enter Tryz.func170 rfl rfl rfl (.cons (i:=0) rfl .nil) ?_;have hS:=Sat.start W;refine uC 2 ?_;refine uB rfl hS ?_;clear hS;intro b1 w hS;refine uO 11 ?_;refine u1 0 (ad (cs:=[_,_]) rfl a6 aC (by exact hS.ag (xs:=[_,_]) rfl)) ?_;intro a hA;refine ji (vss:=[[_,_]]) hA rfl rfl fK pM rfl rfl rfl (by simp) rfl hS ?_;clear hA a hS;intro A7 w hS;refine uF ll rfl (lG _ _ _ p hS.rd (hp.sat hS) hlc) ?_;rintro e w ⟨t,ls,rfl,hT,hT2⟩;replace hS:Sat _ _ (_::_::_):=hS.ai hT2;clear hT2;refine⟨_,rfl,?_⟩;refine u1 4 (a7 rfl) ?_;intro a hA;refine wp_loop_ghost (fun (mm:Nat) a w=>∃(r:Nat),Ag a 21 [(3,.int .i64 (((List.range r).map fun r=>cY (aN p.d r)).sum)),(8,.pointer (some ⟨t,0,none⟩)),(10,.int .i64 ((r:Nat):Int))]∧Sat W w ([jU 355 t ls,bt (ls.map (Loc.jn 357))])∧(r≤16)∧mm=16-r) 16 ?_ ?_
 ·replace hA:=hA.kp [3,8,10] rfl;exact⟨0,hA,oO hS,(by omega),by omega⟩
 intro m a w hI;clear hS hA;obtain⟨r,hA,hS,hr,rfl⟩:=hI;refine rC 2 hA ?_;clear hA a;refine aR 0 0 (aw rfl rfl) ?_ ?_
 ·intro h11;obtain⟨lA,lc,hl⟩:=hT.get (show r<16 by omega);have hst:=s6 p.d r;have hst2:=s6 p.d (r+1);intro a hA;rw[rZ]at hst2;have hrl:=rz hlc r (by omega);refine rO 10 hA ?_;clear hA a;refine u1 0 (a7 rfl) ?_;refine u1 0 (aW rfl rfl lK iV (by omega) (by omega)) ?_;refine u1 6 (aq rfl kT (gT hS hl)) ?_;refine uF Kj rfl (AV _ lA lc (cM p.d r) (ry hS.qV hl) (by omega)) ?_;rintro e w ⟨rfl,hT2⟩;replace hS:Sat _ _ _:=hS.ai hT2;clear hT2;refine⟨_,rfl,?_⟩;refine u1 5 (ah rfl rfl (by omega) (by omega)) ?_;refine u1 2 (ah rfl rfl (by omega) (by omega)) ?_;intro a hA;replace hA:=hA.kp [3,8,10] rfl;rw[←rZ]at hA;exact⟨16-(r+1),by omega,r+1,hA,hS,by omega,rfl⟩
 ·intro h11;refine uO 16 ?_;refine aX ?_;obtain rfl:r=16:=by omega
  exact⟨rfl,hS.nil⟩
theorem gB (W:World)(p:PL)(hp:p.ok W)(hlc:p.d.ab.length≤10000000000):Calls Tryz.prog 125 #[.agg #[.slice p.va p.d.vec.length p.vc,.slice p.ca p.d.ab.length p.cc]] W fun e w'=>e=.returned (.bool (eE p.d))∧Sat W w' []:=by
 refine enter Tryz.func125 rfl rfl rfl (.cons (i:=0) rfl .nil) ?_;have hS:=Sat.start W;refine uC 2 ?_;refine uB rfl hS ?_;clear hS;intro b1 w hS;refine uO 5 ?_;refine u1 0 (ad (cs:=[_,_]) rfl a6 aC (by exact hS.ag (xs:=[_,_]) rfl)) ?_;refine uF IJ rfl (yA _ p (hp.sat hS) hlc) ?_;rintro e w ⟨rfl,hT2⟩;replace hS:Sat _ _ _:=hS.ai hT2;clear hT2;refine⟨_,rfl,?_⟩;refine u1 4 (bn rfl rfl) ?_;refine aX ?_;exact⟨rfl,hS.nil⟩
end Go.Proofs.YtkjabaihpkbfhaaGreat.Wk
namespace Go.Proofs.YtkjabaihpkbfhaaGreat.K
open Go Go.RowKit
variable {P:Program} {ops:Array Oper} {a:Act} {n:Nat} {E:Env} {w:World} {d:Nat} {ds:List Deferred} {x:Operand} {Q:Exit→Act→World→Prop}
theorem eV {i:Nat}{K:Act→World→Prop}{f:Nat}{l:List Operand}{tys:Array TypeId}{vs caps:List Value}{ty:TypeId}{ps:String}{af:Array Edge}{R:Ending→World→Prop}(hA:Ag a n E ds)(hi:ops[i]?=some ⟨some d,.call { callee:=.value x,args:=l.toArray,argTypes:=tys },ty,ps,af,none⟩)
 (hn:Nat.blt d n=true) (hf:enters P f=true) (hx:fF E x=some (.func (.func f) #[] caps.toArray)) (hv:mO E l=some vs) (hc:Calls P f (vs++caps).toArray w R) (k:∀e w',R e w'→∃v,e=.returned v∧∀a',Ag a' n ((d,v)::E) ds→K a' w'):wpOp P ops Q i K a w:=by
 unfold wpOp;simp only[hi];rw[if_pos (by simp[Region.wanted])];refine .inl ?_;have hr:=xo (P:=P) (w:=w) (dd:=some d) (ty:=ty) (ps:=ps) (af:=af) (g:=none) (tys:=tys) hA hf hx hv;simp only[Oper.wp,hr,Oper.upon];refine hc.mono fun e w' h=>?_;obtain⟨v,rfl,hk⟩:=k e w' h;exact hk _ (hA.put hn v)
end Go.Proofs.YtkjabaihpkbfhaaGreat.K
namespace Go.Proofs.YtkjabaihpkbfhaaGreat.Wk
open Go Go.RowKit Go.Proofs.YtkjabaihpkbfhaaGreat Go.Proofs.YtkjabaihpkbfhaaGreat.K Go.Proofs.YtkjabaihpkbfhaaGreat.T
theorem ln {xs:List Int}{i:Nat}{x:Int}(h:xs[i]?=some x)(h0:cu (xs.take i)=0)(hx:x≠0):cu xs=x:=by
 conv=>lhs;rw[←List.take_append_drop i xs,cg,if_pos h0,aF h,cu,if_neg hx]
theorem kl {xs:List Int}{i:Nat}{x:Int}(h:xs[i]?=some x)(h0:cu (xs.take i)=0)(hx:x=0):cu (xs.take (i+1))=0:=by
 rw[aD h,cg,if_pos h0,cu,if_pos hx];rfl
theorem dt {v:List Int}{r:Nat}{x:Int}(h:v[r]?=some x):ay v r=x:=by unfold ay;rw[h]
theorem j2 {x y:Int}(h:x≠y):gr x y≠0:=fun e=>h (eG.1 e)
theorem sd (W:World)(x:Int)  : Calls Tryz.prog 414 #[.int .i64 x] W fun e w'=>e=.returned (.bool false)∧Sat W w' []:=by
 refine enter Tryz.func414 rfl rfl rfl (.cons (i:=0) rfl .nil) ?_;have hS:=Sat.start W;refine uC 9 ?_;refine u1 4 (dP (aK rfl rfl) (by omega)) ?_;refine aX ?_;exact⟨rfl,hS⟩
theorem gA (W:World)(x y:Int)  : Calls Tryz.prog 398 #[.int .i64 x,.int .i64 y] W fun e w'=>e=.returned (.int .i64 (gr x y))∧Sat W w' []:=by
 refine enter Tryz.func398 rfl rfl rfl (.cons (i:=0) rfl (.cons (i:=1) rfl .nil)) ?_;have hS:=Sat.start W;refine uC 8 ?_;refine uF Gq rfl (sd _ x) ?_;rintro e w ⟨rfl,hT⟩;replace hS:Sat _ _ _:=hS.ai hT;clear hT
 ·refine⟨_,rfl,?_⟩;refine uO 6 ?_;refine uF Gq rfl (sd _ y) ?_;rintro e w ⟨rfl,hT⟩;replace hS:Sat _ _ _:=hS.ai hT;clear hT
  ·refine⟨_,rfl,?_⟩;refine uO 26 ?_;refine aR 0 0 (aw rfl rfl) ?_ ?_
   ·intro h16;refine uO 2 ?_;intro a hA;replace hA:=hA.kp [0,1,4,16] rfl;refine rC 8 hA ?_;clear hA a;refine aX ?_;refine⟨?_,hS⟩;unfold gr
    (repeat' split)<;>rfl
   ·intro h16;refine uO 2 ?_;intro a hA;replace hA:=hA.kp [0,1,4,16] rfl;refine rC 8 hA ?_;clear hA a;refine aR 0 0 (dv rfl rfl) ?_ ?_
    ·intro h19;refine uO 10 ?_;refine aX ?_;refine⟨?_,hS⟩;unfold gr
     (repeat' split)<;>first | rfl | omega
    ·intro h19;refine uO 11 ?_;refine aX ?_;refine⟨?_,hS⟩;unfold gr
     (repeat' split)<;>first | rfl | omega
theorem E3 (W:World)(A:Option Addr)(c:Nat)(xs:List Int)(hX:j0 W A c xs)(hl:xs.length≤1000000000000):Calls Tryz.prog 401 #[.slice A (xs).length c] W fun e w'=>e=.returned (.int .i64 (cu xs))∧Sat W w' []:=by
 refine enter Tryz.func401 rfl rfl rfl (.cons (i:=0) rfl .nil) ?_;have hS:=Sat.start W;refine uC 14 ?_;refine u1 4 (ar rfl aE) ?_;intro a hA;refine wp_loop_ghost (fun (mm:Nat) a w=>∃(i:Nat),Ag a 18 [(3,.int .i64 0),(6,.slice A (xs).length c),(7,.int .i64 ((xs.length:Nat):Int)),(8,.int .i64 ((i:Nat):Int))]∧Sat W w ([])∧(i≤xs.length)∧(cu (xs.take i)=0)∧mm=xs.length-i) xs.length ?_ ?_
 ·replace hA:=hA.kp [3,6,7,8] rfl;exact⟨0,hA,hS,(by omega),(by rfl),by omega⟩
 intro m a w hI;clear hS hA;obtain⟨i,hA,hS,hi,he,rfl⟩:=hI;refine rC 2 hA ?_;clear hA a;refine aR 0 0 (aw rfl rfl) ?_ ?_
 ·intro h9;refine uO 10 ?_;obtain⟨A_p,rfl⟩:∃q,A=some q:=(hX.sat hS).av (by omega);obtain⟨x,hx⟩:∃zz_,xs[i]?=some zz_:=⟨_,List.getElem?_eq_getElem (by omega)⟩;refine u1 0 (aj rfl rfl aE fQ (by omega) (by omega)) ?_;refine u1 7 (aq rfl aQ (gb (hX.sat hS) (bu hx))) ?_;refine aR 0 0 (aK rfl rfl) ?_ ?_
  ·intro h14;refine uO 15 ?_;refine aX ?_;exact⟨by rw[ln hx he h14],hS⟩
  ·intro h14;refine uO 7 ?_;refine u1 2 (ah rfl rfl (by omega) (by omega)) ?_;intro a hA;replace hA:=hA.kp [3,6,7,8] rfl;exact⟨xs.length-(i+1),by omega,i+1,hA,hS,by omega,kl hx he (by omega),rfl⟩
 ·intro h9;refine uO 16 ?_;refine aX ?_;rw[List.take_of_length_le (by omega)]at he;exact⟨by rw[he],hS⟩
theorem ue (W:World)(s t:aO)  : Calls Tryz.prog 400 #[.agg #[.int .i64 s.rep,.int .i64 s.lo,.int .i64 s.hi],.agg #[.int .i64 t.rep,.int .i64 t.lo,.int .i64 t.hi]] W fun e w'=>e=.returned (.int .i64 (iN s t))∧Sat W w' []:=by
 refine enter Tryz.func400 rfl rfl rfl (.cons (i:=0) rfl (.cons (i:=1) rfl .nil)) ?_;have hS:=Sat.start W;refine uC 2 ?_;refine uB rfl hS ?_;clear hS;intro b2 w hS;refine uB rfl hS ?_;clear hS;intro b3 w hS;refine uO 4 ?_;intro a hA;refine bh [14,15,16] hS (by kernel_rfl) ?_;replace hS:=hS.drew;refine P1 0 [] hA rfl (fun w=>(aa (hA.ev rfl) bV)) ?_;clear hA a
 refine cT 1 [] rfl (by exact⟨[],hS⟩) (fun w hT=>have hS:=hT.sat;(ld rfl aQ)) ?_;refine bz 2 [] rfl (fun w=>(aa rfl bV)) ?_;refine cT 3 [] rfl (by exact⟨[],hS⟩) (fun w hT=>have hS:=hT.sat;(ld rfl aQ)) ?_;refine bz 5 [] rfl (fun w=>(aa rfl dS)) ?_;refine cT 6 [] rfl (by exact⟨[],hS⟩) (fun w hT=>have hS:=hT.sat;(ld rfl aQ)) ?_;refine bz 7 [] rfl (fun w=>(aa rfl dS)) ?_;refine cT 8 [] rfl (by exact⟨[],hS⟩) (fun w hT=>have hS:=hT.sat;(ld rfl aQ)) ?_;refine bz 10 [] rfl (fun w=>(aa rfl dR)) ?_;refine cT 11 [] rfl (by exact⟨[],hS⟩) (fun w hT=>have hS:=hT.sat;(ld rfl aQ)) ?_;refine bz 12 [] rfl (fun w=>(aa rfl dR)) ?_;refine cT 13 [] rfl (by exact⟨[],hS⟩) (fun w hT=>have hS:=hT.sat;(ld rfl aQ)) ?_;intro a hA;refine aG 4 (by kernel_rfl) ?_;refine eF hA rfl rfl wu rfl (gA _ s.rep t.rep) ?_
 clear hA a;rintro e w ⟨rfl,hT⟩;replace hS:Sat _ _ _:=hS.ai hT;clear hT;refine⟨_,rfl,?_⟩;intro a hA;refine⟨.inr fun _=>(by exact⟨[],hS⟩),?_⟩;refine aG 9 (by kernel_rfl) ?_;refine eF hA rfl rfl wu rfl (gA _ s.lo t.lo) ?_;clear hA a;rintro e w ⟨rfl,hT⟩;replace hS:Sat _ _ _:=hS.ai hT;clear hT;refine⟨_,rfl,?_⟩;intro a hA;refine⟨.inr fun _=>(by exact⟨[],hS⟩),?_⟩;refine aG 14 (by kernel_rfl) ?_;refine eF hA rfl rfl wu rfl (gA _ s.hi t.hi) ?_;clear hA a;rintro e w ⟨rfl,hT⟩;replace hS:Sat _ _ _:=hS.ai hT;clear hT;refine⟨_,rfl,?_⟩;intro a hA;refine⟨.inl rfl,?_⟩;refine aG 15 (by kernel_rfl) ?_;refine eL hA rfl rfl rfl aE jQ rfl rfl rfl (by simp[Value.oneCell']) hS ?_;clear hA a hS;intro A20 w hS;intro a hA;refine⟨.inl rfl,?_⟩;refine aG 16 (by kernel_rfl) ?_
 refine eF hA rfl rfl IA rfl (E3 _ _ _ [gr s.rep t.rep,gr s.lo t.lo,gr s.hi t.hi] hS.rd (by simp)) ?_;clear hA a;rintro e w ⟨rfl,hT⟩;replace hS:Sat _ _ _:=hS.ai hT;clear hT;refine⟨_,rfl,?_⟩;intro a hA;refine⟨.inl rfl,?_⟩;refine rX [17] hA ?_;clear hA a;intro a hA;refine ak (by kernel_rfl) ?_ _;refine rE 2 hA ?_;clear hA a;refine aX ?_;exact⟨rfl,hS.nil⟩
theorem ux (W:World)(A:Option Addr)(c:Nat)(xs:List aO)(B:Option Addr)(d:Nat)(ys:List aO)(hX:gK W A c xs)(hY:gK W B d ys)(hlx:xs.length≤1000000000000000)(hly:ys.length≤1000000000000000):Calls Tryz.prog 399 #[.slice A (xs).length c,.slice B (ys).length d,.func (.func 400) #[] #[]] W fun e w'=>e=.returned (.int .i64 (dj xs ys))∧Sat W w' []:=by
 refine enter Tryz.func399 rfl rfl rfl (.cons (i:=0) rfl (.cons (i:=1) rfl (.cons (i:=2) rfl .nil))) ?_;have hS:=Sat.start W;refine uC 9 ?_;refine u1 4 (ar rfl dm) ?_;intro a hA;refine wp_loop_ghost (fun (mm:Nat) a w=>∃(i:Nat),Ag a 39 [(0,.slice A (xs).length c),(1,.slice B (ys).length d),(2,.func (.func 400) #[] #[]),(11,.slice A (xs).length c),(12,.int .i64 ((xs.length:Nat):Int)),(13,.int .i64 ((i:Nat):Int))]∧Sat W w ([])∧(i≤xs.length)∧(i≤ys.length)∧(dj (xs.drop i) (ys.drop i)=dj xs ys)∧mm=xs.length-i) xs.length ?_ ?_
 ·replace hA:=hA.kp [0,1,2,11,12,13] rfl;exact⟨0,hA,hS,(by omega),(by omega),(by rfl),by omega⟩
 intro m a w hI;clear hS hA;obtain⟨i,hA,hS,hi,hj,he,rfl⟩:=hI;refine rC 2 hA ?_;clear hA a;refine aR 0 0 (aw rfl rfl) ?_ ?_
 ·intro h14;refine uO 11 ?_;obtain⟨A_p,rfl⟩:∃q,A=some q:=(hX.sat hS).av (by omega);obtain⟨x,hx⟩:∃zz_,xs[i]?=some zz_:=⟨_,List.getElem?_eq_getElem (by omega)⟩;refine u1 0 (aj rfl rfl dm cA (by omega) (by omega)) ?_;refine u1 0 (ad (cs:=gx x) rfl i6 cA (fun j u e=>bJ (hX.sat hS) (dC hx j u e))) ?_;refine uN mg hS ?_;clear hS;intro b8 w hS;refine uO 1 ?_;refine uW (vs:=[_,_,_]) (cs':=[_,_,_]) rfl rfl cA hS ?_;clear hS;intro w hS;refine uO 7 ?_;refine u1 0 (ar rfl dm) ?_;refine aR 0 0 (eo rfl rfl) ?_ ?_
  ·intro h21;refine uO 15 ?_;refine aX ?_;rw[aF hx,List.drop_of_length_le (by omega:ys.length≤i),dj]at he;exact⟨by rw[←he],hS.nil⟩
  ·intro h21;refine uO 9 ?_;obtain⟨B_p,rfl⟩:∃q,B=some q:=(hY.sat hS).av (by omega);obtain⟨y,hy⟩:∃zz_,ys[i]?=some zz_:=⟨_,List.getElem?_eq_getElem (by omega)⟩;refine u1 0 (aj rfl rfl dm cA (by omega) (by omega)) ?_;refine u1 0 (ad (cs:=gx y) rfl i6 cA (fun j u e=>bJ (hY.sat hS) (dC hy j u e))) ?_;refine uN mg hS ?_;clear hS;intro b9 w hS;refine uW (vs:=[_,_,_]) (cs':=[_,_,_]) rfl rfl cA hS ?_;clear hS;intro w hS;refine uO 5 ?_;refine u1 0 (ad (cs:=[_,_,_]) rfl i6 cA (by exact (hS.p 1).ag (xs:=[_,_,_]) rfl)) ?_;refine u1 0 (ad (cs:=[_,_,_]) rfl i6 cA (by exact hS.ag (xs:=[_,_,_]) rfl)) ?_;intro a hA;refine AD hA rfl Jp rfl rfl (ue _ x y) ?_;rintro e w ⟨rfl,hT⟩;replace hS:Sat _ _ _:=hS.ai hT;clear hT
   ·refine .inl ⟨_,rfl,?_⟩;clear hA a;refine uO 6 ?_;refine aR 0 0 (aK rfl rfl) ?_ ?_
    ·intro h31;refine uO 15 ?_;refine aX ?_;rw[aF hx,aF hy,dj,if_neg (by omega)]at he;exact⟨by rw[←he],hS.nil⟩
    ·intro h31;refine uO 7 ?_;refine u1 2 (ah rfl rfl (by omega) (by omega)) ?_;intro a hA;replace hA:=hA.kp [0,1,2,11,12,13] rfl;rw[aF hx,aF hy,dj,if_pos (by omega)]at he;exact⟨xs.length-(i+1),by omega,i+1,hA,hS.nil,by omega,by omega,he,rfl⟩
 ·intro h14;refine uO 13 ?_;refine u1 1 (ar rfl dm) ?_;refine u1 0 (ar rfl dm) ?_;refine aR 0 0 (aw rfl rfl) ?_ ?_
  ·intro h38;refine uO 8 ?_;intro a hA;replace hA:=hA.kp [6] rfl;refine rC 2 hA ?_;clear hA a;refine aX ?_;obtain⟨y,hy⟩:∃y,ys[i]?=some y:=⟨_,List.getElem?_eq_getElem (by omega)⟩;rw[aF hy,List.drop_of_length_le (by omega:xs.length≤i),dj]at he;exact⟨by rw[←he],hS.nil⟩
  ·intro h38;refine uO 11 ?_;refine aX ?_;rw[List.drop_of_length_le (by omega:xs.length≤i),List.drop_of_length_le (by omega:ys.length≤i),dj]at he;exact⟨by rw[←he],hS.nil⟩
theorem uo (W:World)(p q:PL)(hp:p.ok W)(hq:q.ok W)(hlp:p.d.ab.length≤10000000000)(hlq:q.d.ab.length≤10000000000):Calls Tryz.prog 387 #[.agg #[.slice p.va p.d.vec.length p.vc,.slice p.ca p.d.ab.length p.cc],.agg #[.slice q.va q.d.vec.length q.vc,.slice q.ca q.d.ab.length q.cc]] W fun e w'=>e=.returned (.int .i64 (pG p.d q.d))∧Sat W w' []:=by
 refine enter Tryz.func387 rfl rfl rfl (.cons (i:=0) rfl (.cons (i:=1) rfl .nil)) ?_;have hS:=Sat.start W;refine uC 2 ?_;refine uB rfl hS ?_;clear hS;intro b2 w hS;refine uB rfl hS ?_;clear hS;intro b3 w hS;refine uO 3 ?_;intro a hA;replace hA:=hA.kp [2,3,4] rfl;refine eD (fun a w=>∃(b5 b6:Nat) (x y:PL),Ag a 49 [(4,.int .i64 0),(5,.pointer (some ⟨b5,0,none⟩)),(6,.pointer (some ⟨b6,0,none⟩))]∧Sat W w ([a8 b5 (.cells #[.slice x.va x.d.vec.length x.vc,.slice x.ca x.d.ab.length x.cc] 63),a8 b6 (.cells #[.slice y.va y.d.vec.length y.vc,.slice y.ca y.d.ab.length y.cc] 63),cI 3 x.va x.vc x.d.vec,bK 219 x.ca x.cc x.d.ab,cI 3 y.va y.vc y.d.vec,bK 219 y.ca y.cc y.d.ab])∧(x.d=hJ p.d)∧(y.d=hJ q.d)) ?_ ?_
 ·refine bh [3,6,7] hS (by kernel_rfl) ?_;replace hS:=hS.drew;refine X1 0 [] hA rfl (by exact⟨[],hS⟩) (fun w hT=>have hS:=hT.sat;(ad (cs:=[_,_]) (hA.ev rfl) a6 aC (by exact (hS.p 1).ag (xs:=[_,_]) rfl))) ?_;clear hA a;refine cT 2 [] rfl (by exact⟨[],hS⟩) (fun w hT=>have hS:=hT.sat;(ad (cs:=[_,_]) rfl a6 aC (by exact hS.ag (xs:=[_,_]) rfl))) ?_;intro a hA;refine D9 1 4 5 (by kernel_rfl) ?_ ?_ ?_
  ·refine eF hA rfl rfl iZ rfl (cn _ p (hp.sat hS) hlp) ?_;clear hA a;rintro e w ⟨x,rfl,hx,hT⟩;replace hS:Sat _ _ (_::_::_):=hS.ai hT;clear hT;refine⟨_,rfl,?_⟩;intro a hA;refine⟨.inr fun _=>(by exact⟨[_,_],hS⟩),?_⟩;refine D9 3 4 5 (by kernel_rfl) ?_ ?_ ?_
   ·refine eF hA rfl rfl iZ rfl (cn _ q (hq.sat hS) hlq) ?_;clear hA a;rintro e w ⟨y,rfl,hy,hT⟩;replace hS:Sat _ _ (_::_::_):=hS.ai hT;clear hT;refine⟨_,rfl,?_⟩;intro a hA;refine⟨.inl rfl,?_⟩;refine mZ 4 5 (by kernel_rfl) ?_ ?_
    ·refine eN hA rfl rfl dL hS ?_;clear hA a hS;intro b5 w hS;intro a hA;refine⟨.inr fun _=>(by exact⟨[_,_,_,_,_],hS⟩),?_⟩;refine aG 5 (by kernel_rfl) ?_;refine eN hA rfl rfl dL hS ?_;clear hA a hS;intro b6 w hS;intro a hA;refine⟨.inr fun _=>(by exact⟨[_,_,_,_,_,_],hS⟩),?_⟩;refine aG 6 (by kernel_rfl) ?_;refine dq (vs:=[_,_]) (cs':=[_,_]) hA rfl rfl rfl aC (by simp[Value.oneCell']) (hS.p 1) rfl rfl ?_;clear hS;intro w hS;refine⟨.inl rfl,?_⟩;refine aG 7 (by kernel_rfl) ?_;refine dq (vs:=[_,_]) (cs':=[_,_]) hA rfl rfl rfl aC (by simp[Value.oneCell']) (hS.p 1) rfl rfl ?_;clear hS;intro w hS;refine⟨.inl rfl,?_⟩;refine ak (by kernel_rfl) ?_ _;replace hA:=hA.kp [4,5,6] rfl
     first
      | exact⟨b5,b6,x,y,hA,((((((hS.p 3).p 3).p 5).p 5).p 4).p 5).cZ [_,_,_,_,_,_],(by exact hx),(by exact hy)⟩
    ·refine eN hA rfl rfl dL hS ?_;clear hA a hS;intro b6 w hS;intro a hA;refine⟨.inr fun _=>(by exact⟨[_,_,_,_,_],hS⟩),?_⟩;refine aG 4 (by kernel_rfl) ?_;refine eN hA rfl rfl dL hS ?_;clear hA a hS;intro b5 w hS;intro a hA;refine⟨.inr fun _=>(by exact⟨[_,_,_,_,_,_],hS⟩),?_⟩;refine aG 6 (by kernel_rfl) ?_;refine dq (vs:=[_,_]) (cs':=[_,_]) hA rfl rfl rfl aC (by simp[Value.oneCell']) hS rfl rfl ?_;clear hS;intro w hS;refine⟨.inl rfl,?_⟩;refine aG 7 (by kernel_rfl) ?_;refine dq (vs:=[_,_]) (cs':=[_,_]) hA rfl rfl rfl aC (by simp[Value.oneCell']) (hS.p 1) rfl rfl ?_;clear hS;intro w hS;refine⟨.inl rfl,?_⟩;refine ak (by kernel_rfl) ?_ _;replace hA:=hA.kp [4,5,6] rfl
     first
      | exact⟨b5,b6,x,y,hA,((((((hS.p 3).p 3).p 5).p 5).p 4).p 5).cZ [_,_,_,_,_,_],(by exact hx),(by exact hy)⟩
   ·refine eN hA rfl rfl dL hS ?_;clear hA a hS;intro b5 w hS;intro a hA;refine⟨.inr fun _=>(by exact⟨[_,_,_],hS⟩),?_⟩;refine mZ 3 5 (by kernel_rfl) ?_ ?_
    ·refine eF hA rfl rfl iZ rfl (cn _ q (hq.sat hS) hlq) ?_;clear hA a;rintro e w ⟨y,rfl,hy,hT⟩;replace hS:Sat _ _ (_::_::_):=hS.ai hT;clear hT;refine⟨_,rfl,?_⟩;intro a hA;refine⟨.inl rfl,?_⟩;refine aG 5 (by kernel_rfl) ?_;refine eN hA rfl rfl dL hS ?_;clear hA a hS;intro b6 w hS;intro a hA;refine⟨.inr fun _=>(by exact⟨[_,_,_,_,_,_],hS⟩),?_⟩;refine aG 6 (by kernel_rfl) ?_;refine dq (vs:=[_,_]) (cs':=[_,_]) hA rfl rfl rfl aC (by simp[Value.oneCell']) (hS.p 3) rfl rfl ?_;clear hS;intro w hS;refine⟨.inl rfl,?_⟩;refine aG 7 (by kernel_rfl) ?_;refine dq (vs:=[_,_]) (cs':=[_,_]) hA rfl rfl rfl aC (by simp[Value.oneCell']) (hS.p 1) rfl rfl ?_;clear hS;intro w hS;refine⟨.inl rfl,?_⟩;refine ak (by kernel_rfl) ?_ _;replace hA:=hA.kp [4,5,6] rfl
     first
      | exact⟨b5,b6,x,y,hA,((((((hS.p 3).p 3).p 5).p 5).p 4).p 5).cZ [_,_,_,_,_,_],(by exact hx),(by exact hy)⟩
    ·refine eN hA rfl rfl dL hS ?_;clear hA a hS;intro b6 w hS;intro a hA;refine⟨.inr fun _=>(by exact⟨[_,_,_,_],hS⟩),?_⟩;refine aG 3 (by kernel_rfl) ?_;refine eF hA rfl rfl iZ rfl (cn _ q (hq.sat hS) hlq) ?_;clear hA a;rintro e w ⟨y,rfl,hy,hT⟩;replace hS:Sat _ _ (_::_::_):=hS.ai hT;clear hT;refine⟨_,rfl,?_⟩;intro a hA;refine⟨.inl rfl,?_⟩;refine aG 6 (by kernel_rfl) ?_;refine dq (vs:=[_,_]) (cs':=[_,_]) hA rfl rfl rfl aC (by simp[Value.oneCell']) (hS.p 3) rfl rfl ?_;clear hS;intro w hS;refine⟨.inl rfl,?_⟩;refine aG 7 (by kernel_rfl) ?_;refine dq (vs:=[_,_]) (cs':=[_,_]) hA rfl rfl rfl aC (by simp[Value.oneCell']) (hS.p 3) rfl rfl ?_;clear hS;intro w hS;refine⟨.inl rfl,?_⟩;refine ak (by kernel_rfl) ?_ _;replace hA:=hA.kp [4,5,6] rfl
     first
      | exact⟨b5,b6,x,y,hA,((((((hS.p 3).p 3).p 5).p 5).p 4).p 5).cZ [_,_,_,_,_,_],(by exact hx),(by exact hy)⟩
   ·refine eN hA rfl rfl dL hS ?_;clear hA a hS;intro b6 w hS;intro a hA;refine⟨.inr fun _=>(by exact⟨[_,_,_],hS⟩),?_⟩;refine mZ 3 4 (by kernel_rfl) ?_ ?_
    ·refine eF hA rfl rfl iZ rfl (cn _ q (hq.sat hS) hlq) ?_;clear hA a;rintro e w ⟨y,rfl,hy,hT⟩;replace hS:Sat _ _ (_::_::_):=hS.ai hT;clear hT;refine⟨_,rfl,?_⟩;intro a hA;refine⟨.inl rfl,?_⟩;refine aG 4 (by kernel_rfl) ?_;refine eN hA rfl rfl dL hS ?_;clear hA a hS;intro b5 w hS;intro a hA;refine⟨.inr fun _=>(by exact⟨[_,_,_,_,_,_],hS⟩),?_⟩;refine aG 6 (by kernel_rfl) ?_;refine dq (vs:=[_,_]) (cs':=[_,_]) hA rfl rfl rfl aC (by simp[Value.oneCell']) hS rfl rfl ?_;clear hS;intro w hS;refine⟨.inl rfl,?_⟩;refine aG 7 (by kernel_rfl) ?_;refine dq (vs:=[_,_]) (cs':=[_,_]) hA rfl rfl rfl aC (by simp[Value.oneCell']) (hS.p 3) rfl rfl ?_;clear hS;intro w hS;refine⟨.inl rfl,?_⟩;refine ak (by kernel_rfl) ?_ _;replace hA:=hA.kp [4,5,6] rfl
     first
      | exact⟨b5,b6,x,y,hA,((((((hS.p 3).p 3).p 5).p 5).p 4).p 5).cZ [_,_,_,_,_,_],(by exact hx),(by exact hy)⟩
    ·refine eN hA rfl rfl dL hS ?_;clear hA a hS;intro b5 w hS;intro a hA;refine⟨.inr fun _=>(by exact⟨[_,_,_,_],hS⟩),?_⟩;refine aG 3 (by kernel_rfl) ?_;refine eF hA rfl rfl iZ rfl (cn _ q (hq.sat hS) hlq) ?_;clear hA a;rintro e w ⟨y,rfl,hy,hT⟩;replace hS:Sat _ _ (_::_::_):=hS.ai hT;clear hT;refine⟨_,rfl,?_⟩;intro a hA;refine⟨.inl rfl,?_⟩;refine aG 6 (by kernel_rfl) ?_;refine dq (vs:=[_,_]) (cs':=[_,_]) hA rfl rfl rfl aC (by simp[Value.oneCell']) (hS.p 2) rfl rfl ?_;clear hS;intro w hS;refine⟨.inl rfl,?_⟩;refine aG 7 (by kernel_rfl) ?_;refine dq (vs:=[_,_]) (cs':=[_,_]) hA rfl rfl rfl aC (by simp[Value.oneCell']) (hS.p 3) rfl rfl ?_;clear hS;intro w hS;refine⟨.inl rfl,?_⟩;refine ak (by kernel_rfl) ?_ _;replace hA:=hA.kp [4,5,6] rfl
     first
      | exact⟨b5,b6,x,y,hA,((((((hS.p 3).p 3).p 5).p 5).p 4).p 5).cZ [_,_,_,_,_,_],(by exact hx),(by exact hy)⟩
  ·refine eN hA rfl rfl dL hS ?_;clear hA a hS;intro b5 w hS;intro a hA;refine⟨.inr fun _=>(by exact⟨[_],hS⟩),?_⟩;refine mZ 1 5 (by kernel_rfl) ?_ ?_
   ·refine eF hA rfl rfl iZ rfl (cn _ p (hp.sat hS) hlp) ?_;clear hA a;rintro e w ⟨x,rfl,hx,hT⟩;replace hS:Sat _ _ (_::_::_):=hS.ai hT;clear hT;refine⟨_,rfl,?_⟩;intro a hA;refine⟨.inr fun _=>(by exact⟨[_,_,_],hS⟩),?_⟩;refine mZ 3 5 (by kernel_rfl) ?_ ?_
    ·refine eF hA rfl rfl iZ rfl (cn _ q (hq.sat hS) hlq) ?_;clear hA a;rintro e w ⟨y,rfl,hy,hT⟩;replace hS:Sat _ _ (_::_::_):=hS.ai hT;clear hT;refine⟨_,rfl,?_⟩;intro a hA;refine⟨.inl rfl,?_⟩;refine aG 5 (by kernel_rfl) ?_;refine eN hA rfl rfl dL hS ?_;clear hA a hS;intro b6 w hS;intro a hA;refine⟨.inr fun _=>(by exact⟨[_,_,_,_,_,_],hS⟩),?_⟩;refine aG 6 (by kernel_rfl) ?_;refine dq (vs:=[_,_]) (cs':=[_,_]) hA rfl rfl rfl aC (by simp[Value.oneCell']) (hS.p 5) rfl rfl ?_;clear hS;intro w hS;refine⟨.inl rfl,?_⟩;refine aG 7 (by kernel_rfl) ?_;refine dq (vs:=[_,_]) (cs':=[_,_]) hA rfl rfl rfl aC (by simp[Value.oneCell']) (hS.p 1) rfl rfl ?_;clear hS;intro w hS;refine⟨.inl rfl,?_⟩;refine ak (by kernel_rfl) ?_ _;replace hA:=hA.kp [4,5,6] rfl
     first
      | exact⟨b5,b6,x,y,hA,((((((hS.p 3).p 3).p 5).p 5).p 4).p 5).cZ [_,_,_,_,_,_],(by exact hx),(by exact hy)⟩
    ·refine eN hA rfl rfl dL hS ?_;clear hA a hS;intro b6 w hS;intro a hA;refine⟨.inr fun _=>(by exact⟨[_,_,_,_],hS⟩),?_⟩;refine aG 3 (by kernel_rfl) ?_;refine eF hA rfl rfl iZ rfl (cn _ q (hq.sat hS) hlq) ?_;clear hA a;rintro e w ⟨y,rfl,hy,hT⟩;replace hS:Sat _ _ (_::_::_):=hS.ai hT;clear hT;refine⟨_,rfl,?_⟩;intro a hA;refine⟨.inl rfl,?_⟩;refine aG 6 (by kernel_rfl) ?_;refine dq (vs:=[_,_]) (cs':=[_,_]) hA rfl rfl rfl aC (by simp[Value.oneCell']) (hS.p 5) rfl rfl ?_;clear hS;intro w hS;refine⟨.inl rfl,?_⟩;refine aG 7 (by kernel_rfl) ?_;refine dq (vs:=[_,_]) (cs':=[_,_]) hA rfl rfl rfl aC (by simp[Value.oneCell']) (hS.p 3) rfl rfl ?_;clear hS;intro w hS;refine⟨.inl rfl,?_⟩;refine ak (by kernel_rfl) ?_ _;replace hA:=hA.kp [4,5,6] rfl
     first
      | exact⟨b5,b6,x,y,hA,((((((hS.p 3).p 3).p 5).p 5).p 4).p 5).cZ [_,_,_,_,_,_],(by exact hx),(by exact hy)⟩
   ·refine eN hA rfl rfl dL hS ?_;clear hA a hS;intro b6 w hS;intro a hA;refine⟨.inr fun _=>(by exact⟨[_,_],hS⟩),?_⟩;refine aG 1 (by kernel_rfl) ?_;refine eF hA rfl rfl iZ rfl (cn _ p (hp.sat hS) hlp) ?_;clear hA a;rintro e w ⟨x,rfl,hx,hT⟩;replace hS:Sat _ _ (_::_::_):=hS.ai hT;clear hT;refine⟨_,rfl,?_⟩;intro a hA;refine⟨.inr fun _=>(by exact⟨[_,_,_,_],hS⟩),?_⟩;refine aG 3 (by kernel_rfl) ?_;refine eF hA rfl rfl iZ rfl (cn _ q (hq.sat hS) hlq) ?_;clear hA a;rintro e w ⟨y,rfl,hy,hT⟩;replace hS:Sat _ _ (_::_::_):=hS.ai hT;clear hT;refine⟨_,rfl,?_⟩;intro a hA;refine⟨.inl rfl,?_⟩;refine aG 6 (by kernel_rfl) ?_;refine dq (vs:=[_,_]) (cs':=[_,_]) hA rfl rfl rfl aC (by simp[Value.oneCell']) (hS.p 5) rfl rfl ?_;clear hS;intro w hS;refine⟨.inl rfl,?_⟩;refine aG 7 (by kernel_rfl) ?_
    refine dq (vs:=[_,_]) (cs':=[_,_]) hA rfl rfl rfl aC (by simp[Value.oneCell']) (hS.p 5) rfl rfl ?_;clear hS;intro w hS;refine⟨.inl rfl,?_⟩;refine ak (by kernel_rfl) ?_ _;replace hA:=hA.kp [4,5,6] rfl
    first
     | exact⟨b5,b6,x,y,hA,((((((hS.p 3).p 3).p 5).p 5).p 4).p 5).cZ [_,_,_,_,_,_],(by exact hx),(by exact hy)⟩
  ·refine eN hA rfl rfl dL hS ?_;clear hA a hS;intro b6 w hS;intro a hA;refine⟨.inr fun _=>(by exact⟨[_],hS⟩),?_⟩;refine mZ 1 4 (by kernel_rfl) ?_ ?_
   ·refine eF hA rfl rfl iZ rfl (cn _ p (hp.sat hS) hlp) ?_;clear hA a;rintro e w ⟨x,rfl,hx,hT⟩;replace hS:Sat _ _ (_::_::_):=hS.ai hT;clear hT;refine⟨_,rfl,?_⟩;intro a hA;refine⟨.inr fun _=>(by exact⟨[_,_,_],hS⟩),?_⟩;refine mZ 3 4 (by kernel_rfl) ?_ ?_
    ·refine eF hA rfl rfl iZ rfl (cn _ q (hq.sat hS) hlq) ?_;clear hA a;rintro e w ⟨y,rfl,hy,hT⟩;replace hS:Sat _ _ (_::_::_):=hS.ai hT;clear hT;refine⟨_,rfl,?_⟩;intro a hA;refine⟨.inl rfl,?_⟩;refine aG 4 (by kernel_rfl) ?_;refine eN hA rfl rfl dL hS ?_;clear hA a hS;intro b5 w hS;intro a hA;refine⟨.inr fun _=>(by exact⟨[_,_,_,_,_,_],hS⟩),?_⟩;refine aG 6 (by kernel_rfl) ?_;refine dq (vs:=[_,_]) (cs':=[_,_]) hA rfl rfl rfl aC (by simp[Value.oneCell']) hS rfl rfl ?_;clear hS;intro w hS;refine⟨.inl rfl,?_⟩;refine aG 7 (by kernel_rfl) ?_;refine dq (vs:=[_,_]) (cs':=[_,_]) hA rfl rfl rfl aC (by simp[Value.oneCell']) (hS.p 5) rfl rfl ?_;clear hS;intro w hS;refine⟨.inl rfl,?_⟩;refine ak (by kernel_rfl) ?_ _;replace hA:=hA.kp [4,5,6] rfl
     first
      | exact⟨b5,b6,x,y,hA,((((((hS.p 3).p 3).p 5).p 5).p 4).p 5).cZ [_,_,_,_,_,_],(by exact hx),(by exact hy)⟩
    ·refine eN hA rfl rfl dL hS ?_;clear hA a hS;intro b5 w hS;intro a hA;refine⟨.inr fun _=>(by exact⟨[_,_,_,_],hS⟩),?_⟩;refine aG 3 (by kernel_rfl) ?_;refine eF hA rfl rfl iZ rfl (cn _ q (hq.sat hS) hlq) ?_;clear hA a;rintro e w ⟨y,rfl,hy,hT⟩;replace hS:Sat _ _ (_::_::_):=hS.ai hT;clear hT;refine⟨_,rfl,?_⟩;intro a hA;refine⟨.inl rfl,?_⟩;refine aG 6 (by kernel_rfl) ?_;refine dq (vs:=[_,_]) (cs':=[_,_]) hA rfl rfl rfl aC (by simp[Value.oneCell']) (hS.p 2) rfl rfl ?_;clear hS;intro w hS;refine⟨.inl rfl,?_⟩;refine aG 7 (by kernel_rfl) ?_;refine dq (vs:=[_,_]) (cs':=[_,_]) hA rfl rfl rfl aC (by simp[Value.oneCell']) (hS.p 5) rfl rfl ?_;clear hS;intro w hS;refine⟨.inl rfl,?_⟩;refine ak (by kernel_rfl) ?_ _;replace hA:=hA.kp [4,5,6] rfl
     first
      | exact⟨b5,b6,x,y,hA,((((((hS.p 3).p 3).p 5).p 5).p 4).p 5).cZ [_,_,_,_,_,_],(by exact hx),(by exact hy)⟩
   ·refine eN hA rfl rfl dL hS ?_;clear hA a hS;intro b5 w hS;intro a hA;refine⟨.inr fun _=>(by exact⟨[_,_],hS⟩),?_⟩;refine aG 1 (by kernel_rfl) ?_;refine eF hA rfl rfl iZ rfl (cn _ p (hp.sat hS) hlp) ?_;clear hA a;rintro e w ⟨x,rfl,hx,hT⟩;replace hS:Sat _ _ (_::_::_):=hS.ai hT;clear hT;refine⟨_,rfl,?_⟩;intro a hA;refine⟨.inr fun _=>(by exact⟨[_,_,_,_],hS⟩),?_⟩;refine aG 3 (by kernel_rfl) ?_;refine eF hA rfl rfl iZ rfl (cn _ q (hq.sat hS) hlq) ?_;clear hA a;rintro e w ⟨y,rfl,hy,hT⟩;replace hS:Sat _ _ (_::_::_):=hS.ai hT;clear hT;refine⟨_,rfl,?_⟩;intro a hA;refine⟨.inl rfl,?_⟩;refine aG 6 (by kernel_rfl) ?_;refine dq (vs:=[_,_]) (cs':=[_,_]) hA rfl rfl rfl aC (by simp[Value.oneCell']) (hS.p 4) rfl rfl ?_;clear hS;intro w hS;refine⟨.inl rfl,?_⟩;refine aG 7 (by kernel_rfl) ?_
    refine dq (vs:=[_,_]) (cs':=[_,_]) hA rfl rfl rfl aC (by simp[Value.oneCell']) (hS.p 5) rfl rfl ?_;clear hS;intro w hS;refine⟨.inl rfl,?_⟩;refine ak (by kernel_rfl) ?_ _;replace hA:=hA.kp [4,5,6] rfl
    first
     | exact⟨b5,b6,x,y,hA,((((((hS.p 3).p 3).p 5).p 5).p 4).p 5).cZ [_,_,_,_,_,_],(by exact hx),(by exact hy)⟩
 ·intro a w hI;clear hS hA;obtain⟨b5,b6,x,y,hA,hS,hx,hy⟩:=hI;have hcx:=iL p.d;rw[←hx]at hcx;have hcy:=iL q.d;rw[←hy]at hcy;have hlx:=jA p.d;rw[←hx]at hlx;have hly:=jA q.d;rw[←hy]at hly;have hxv:=hcx.len;have hyv:=hcy.len;obtain⟨xva,xvc,xca,xcc,xd⟩:=x;obtain⟨yva,yvc,yca,ycc,yd⟩:=y;dsimp only at hS hA hx hy hcx hcy hlx hly hxv hyv;refine rC 7 hA ?_;clear hA a;intro a hA
  refine wp_loop_ghost (fun (mm:Nat) a w=>∃(r:Nat),Ag a 49 [(5,.pointer (some ⟨b5,0,none⟩)),(6,.pointer (some ⟨b6,0,none⟩)),(14,.int .i64 ((r:Nat):Int))]∧Sat W w ([a8 b5 (.cells #[.slice xva xd.vec.length xvc,.slice xca xd.ab.length xcc] 63),a8 b6 (.cells #[.slice yva yd.vec.length yvc,.slice yca yd.ab.length ycc] 63),cI 3 xva xvc xd.vec,bK 219 xca xcc xd.ab,cI 3 yva yvc yd.vec,bK 219 yca ycc yd.ab])∧(r≤16)∧(cu (((List.range 16).map fun r=>gr (ay xd.vec r) (ay yd.vec r)).take r)=0)∧mm=16-r) 16 ?_ ?_
  ·replace hA:=hA.kp [5,6,14] rfl;exact⟨0,hA,hS,(by omega),(by rfl),by omega⟩
  intro m a w hI;clear hS hA;obtain⟨r,hA,hS,hr,he,rfl⟩:=hI;refine rC 2 hA ?_;clear hA a;refine aR 0 0 (aw rfl rfl) ?_ ?_
  ·intro h15;refine uO 24 ?_;refine u1 0 (aa rfl cw) ?_;refine u1 0 (ld rfl cW) ?_;refine u1 0 (ar rfl aE) ?_;refine aR 0 0 (aw rfl rfl) ?_ ?_
   ·intro h21;refine uO 4 ?_;refine u1 0 (aa rfl cw) ?_;refine u1 1 (ld rfl cW) ?_;obtain⟨xva_p,rfl⟩:∃q,xva=some q:=(hS.p 2).rd.av (by omega);obtain⟨v1,hv1⟩:∃zz_,xd.vec[r]?=some zz_:=⟨_,List.getElem?_eq_getElem (by omega)⟩;refine u1 0 (aj rfl rfl aE fQ (by omega) (by omega)) ?_;refine u1 7 (aq rfl aQ (gb (hS.p 2).rd (bu hv1))) ?_;refine u1 0 (aa rfl cw) ?_;refine u1 0 (ld rfl cW) ?_;refine u1 0 (ar rfl aE) ?_;refine aR 0 0 (aw rfl rfl) ?_ ?_
    ·intro h31;refine uO 4 ?_;refine u1 0 (aa rfl cw) ?_;refine u1 1 (ld rfl cW) ?_;obtain⟨yva_p,rfl⟩:∃q,yva=some q:=(hS.p 4).rd.av (by omega);obtain⟨v2,hv2⟩:∃zz_,yd.vec[r]?=some zz_:=⟨_,List.getElem?_eq_getElem (by omega)⟩;refine u1 0 (aj rfl rfl aE fQ (by omega) (by omega)) ?_;refine u1 7 (aq rfl aQ (gb (hS.p 4).rd (bu hv2))) ?_;refine aR 0 0 (aK rfl rfl) ?_ ?_
     ·intro h39;refine uO 7 ?_;refine uF wu rfl (gA _ _ _) ?_;rintro e w ⟨rfl,hT⟩;replace hS:Sat _ _ _:=hS.ai hT;clear hT;refine⟨_,rfl,?_⟩;refine uO 9 ?_;refine aX ?_;have hg:((List.range 16).map fun r=>gr (ay xd.vec r) (ay yd.vec r))[r]?=some (gr (ay xd.vec r) (ay yd.vec r)):=by rw[List.getElem?_map,List.getElem?_range (by omega)];rfl
      have hvx:=dt hv1;have hvy:=dt hv2;have hne:gr (ay xd.vec r) (ay yd.vec r)≠0:=by rw[hvx,hvy];exact j2 h39
      have hz:=ln hg he hne;refine⟨?_,hS.nil⟩;unfold pG rS;rw[←hx,←hy,cg,hz,if_neg hne,hvx,hvy]
     ·intro h39;refine uO 7 ?_;refine u1 2 (ah rfl rfl (by omega) (by omega)) ?_;intro a hA;replace hA:=hA.kp [5,6,14] rfl;have hg:((List.range 16).map fun r=>gr (ay xd.vec r) (ay yd.vec r))[r]?=some (gr (ay xd.vec r) (ay yd.vec r)):=by rw[List.getElem?_map,List.getElem?_range (by omega)];rfl
      have hvx:=dt hv1;have hvy:=dt hv2;exact⟨16-(r+1),by omega,r+1,hA,hS,by omega,kl hg he (by rw[hvx,hvy];exact eG.2 (by omega)),rfl⟩
    ·intro h31;refine uO 9 ?_;refine aR 0 0 (aK rfl rfl) ?_ ?_
     ·intro h39;refine uO 7 ?_;refine uF wu rfl (gA _ _ _) ?_;rintro e w ⟨rfl,hT⟩;replace hS:Sat _ _ _:=hS.ai hT;clear hT;refine⟨_,rfl,?_⟩;refine uO 9 ?_;refine aX ?_;have hg:((List.range 16).map fun r=>gr (ay xd.vec r) (ay yd.vec r))[r]?=some (gr (ay xd.vec r) (ay yd.vec r)):=by rw[List.getElem?_map,List.getElem?_range (by omega)];rfl
      have hvx:=dt hv1;have hvy:ay yd.vec r=0:=eB (by omega);have hne:gr (ay xd.vec r) (ay yd.vec r)≠0:=by rw[hvx,hvy];exact j2 h39
      have hz:=ln hg he hne;refine⟨?_,hS.nil⟩;unfold pG rS;rw[←hx,←hy,cg,hz,if_neg hne,hvx,hvy]
     ·intro h39;refine uO 7 ?_;refine u1 2 (ah rfl rfl (by omega) (by omega)) ?_;intro a hA;replace hA:=hA.kp [5,6,14] rfl;have hg:((List.range 16).map fun r=>gr (ay xd.vec r) (ay yd.vec r))[r]?=some (gr (ay xd.vec r) (ay yd.vec r)):=by rw[List.getElem?_map,List.getElem?_range (by omega)];rfl
      have hvx:=dt hv1;have hvy:ay yd.vec r=0:=eB (by omega);exact⟨16-(r+1),by omega,r+1,hA,hS,by omega,kl hg he (by rw[hvx,hvy];exact eG.2 (by omega)),rfl⟩
   ·intro h21;refine uO 9 ?_;refine u1 0 (aa rfl cw) ?_;refine u1 0 (ld rfl cW) ?_;refine u1 0 (ar rfl aE) ?_;refine aR 0 0 (aw rfl rfl) ?_ ?_
    ·intro h31;refine uO 4 ?_;refine u1 0 (aa rfl cw) ?_;refine u1 1 (ld rfl cW) ?_;obtain⟨yva_p,rfl⟩:∃q,yva=some q:=(hS.p 4).rd.av (by omega);obtain⟨v2,hv2⟩:∃zz_,yd.vec[r]?=some zz_:=⟨_,List.getElem?_eq_getElem (by omega)⟩;refine u1 0 (aj rfl rfl aE fQ (by omega) (by omega)) ?_;refine u1 7 (aq rfl aQ (gb (hS.p 4).rd (bu hv2))) ?_;refine aR 0 0 (aK rfl rfl) ?_ ?_
     ·intro h39;refine uO 7 ?_;refine uF wu rfl (gA _ _ _) ?_;rintro e w ⟨rfl,hT⟩;replace hS:Sat _ _ _:=hS.ai hT;clear hT;refine⟨_,rfl,?_⟩;refine uO 9 ?_;refine aX ?_;have hg:((List.range 16).map fun r=>gr (ay xd.vec r) (ay yd.vec r))[r]?=some (gr (ay xd.vec r) (ay yd.vec r)):=by rw[List.getElem?_map,List.getElem?_range (by omega)];rfl
      have hvx:ay xd.vec r=0:=eB (by omega);have hvy:=dt hv2;have hne:gr (ay xd.vec r) (ay yd.vec r)≠0:=by rw[hvx,hvy];exact j2 h39
      have hz:=ln hg he hne;refine⟨?_,hS.nil⟩;unfold pG rS;rw[←hx,←hy,cg,hz,if_neg hne,hvx,hvy]
     ·intro h39;refine uO 7 ?_;refine u1 2 (ah rfl rfl (by omega) (by omega)) ?_;intro a hA;replace hA:=hA.kp [5,6,14] rfl;have hg:((List.range 16).map fun r=>gr (ay xd.vec r) (ay yd.vec r))[r]?=some (gr (ay xd.vec r) (ay yd.vec r)):=by rw[List.getElem?_map,List.getElem?_range (by omega)];rfl
      have hvx:ay xd.vec r=0:=eB (by omega);have hvy:=dt hv2;exact⟨16-(r+1),by omega,r+1,hA,hS,by omega,kl hg he (by rw[hvx,hvy];exact eG.2 (by omega)),rfl⟩
    ·intro h31;refine uO 9 ?_;refine u1 7 (dP (aK rfl rfl) (by omega)) ?_;refine u1 2 (ah rfl rfl (by omega) (by omega)) ?_;intro a hA;replace hA:=hA.kp [5,6,14] rfl;have hg:((List.range 16).map fun r=>gr (ay xd.vec r) (ay yd.vec r))[r]?=some (gr (ay xd.vec r) (ay yd.vec r)):=by rw[List.getElem?_map,List.getElem?_range (by omega)];rfl
     have hvx:ay xd.vec r=0:=eB (by omega);have hvy:ay yd.vec r=0:=eB (by omega);exact⟨16-(r+1),by omega,r+1,hA,hS,by omega,kl hg he (by rw[hvx,hvy];exact eG.2 (by omega)),rfl⟩
  ·intro h15;refine uO 11 ?_;refine u1 0 (aa rfl bZ) ?_;refine u1 0 (ld rfl eM) ?_;refine u1 0 (aa rfl bZ) ?_;refine u1 0 (ld rfl eM) ?_;refine uF Ju rfl (ux _ xca xcc xd.ab yca ycc yd.ab (hS.p 3).rd (hS.p 5).rd (by omega) (by omega)) ?_;rintro e w ⟨rfl,hT⟩;replace hS:Sat _ _ _:=hS.ai hT;clear hT;refine⟨_,rfl,?_⟩;refine uO 4 ?_;refine aX ?_;rw[List.take_of_length_le (by simp;omega)]at he;refine⟨?_,hS.nil⟩;unfold pG rS;rw[←hx,←hy,cg,he,if_pos rfl,cu]
   split<;>rename_i hc
   ·rw[hc];rfl
   ·rfl
theorem o2 (W:World)(p q:PL)(hp:p.ok W)(hq:q.ok W)(hlp:p.d.ab.length≤10000000000)(hlq:q.d.ab.length≤10000000000):Calls Tryz.prog 354 #[.agg #[.slice p.va p.d.vec.length p.vc,.slice p.ca p.d.ab.length p.cc],.agg #[.slice q.va q.d.vec.length q.vc,.slice q.ca q.d.ab.length q.cc]] W fun e w'=>e=.returned (.bool (ck p.d q.d))∧Sat W w' []:=by
 refine enter Tryz.func354 rfl rfl rfl (.cons (i:=0) rfl (.cons (i:=1) rfl .nil)) ?_;have hS:=Sat.start W;refine uC 2 ?_;refine uB rfl hS ?_;clear hS;intro b2 w hS;refine uB rfl hS ?_;clear hS;intro b3 w hS;refine uO 3 ?_;intro a hA;replace hA:=hA.kp [2,3,4] rfl;refine eD (fun a w=>∃(t1 t2:Nat) (ls1 ls2:List (Loc bo)),Ag a 39 [(4,.bool false),(5,.pointer (some ⟨t1,0,none⟩)),(6,.pointer (some ⟨t2,0,none⟩))]∧Sat W w ([jU 355 t1 ls1,bt (ls1.map (Loc.jn 357)),jU 355 t2 ls2,bt (ls2.map (Loc.jn 357))])∧(ia ls1 (cM p.d))∧(ia ls2 (cM q.d))) ?_ ?_
 ·refine bh [5] hS (by kernel_rfl) ?_;replace hS:=hS.drew;refine X1 0 [] hA rfl (by exact⟨[],hS⟩) (fun w hT=>have hS:=hT.sat;(ad (cs:=[_,_]) (hA.ev rfl) a6 aC (by exact (hS.p 1).ag (xs:=[_,_]) rfl))) ?_;clear hA a;refine cT 3 [] rfl (by exact⟨[],hS⟩) (fun w hT=>have hS:=hT.sat;(ad (cs:=[_,_]) rfl a6 aC (by exact hS.ag (xs:=[_,_]) rfl))) ?_;intro a hA;refine mZ 1 4 (by kernel_rfl) ?_ ?_
  ·refine vI (vss:=[[_,_]]) hA rfl rfl rfl fK pM rfl rfl rfl (by simp) rfl hS ?_;clear hA a hS;intro A9 w hS;intro a hA;refine⟨.inr fun _=>(by exact⟨[_],hS⟩),?_⟩;refine mZ 2 4 (by kernel_rfl) ?_ ?_
   ·refine eF hA rfl rfl ll rfl (lG _ _ _ p (by exact hS.rd) (hp.sat hS) hlp) ?_;clear hA a;rintro e w ⟨t1,ls1,rfl,hT1,hT⟩;replace hS:Sat _ _ (_::_::_):=hS.ai hT;clear hT;refine⟨_,rfl,?_⟩;intro a hA;refine⟨.inr fun _=>(by exact⟨[_,_,_],hS⟩),?_⟩;refine aG 4 (by kernel_rfl) ?_;refine vI (vss:=[[_,_]]) hA rfl rfl rfl fK pM rfl rfl rfl (by simp) rfl hS ?_;clear hA a hS;intro A12 w hS;intro a hA;refine⟨.inr fun _=>(by exact⟨[_,_,_,_],hS⟩),?_⟩;refine aG 5 (by kernel_rfl) ?_;refine eF hA rfl rfl ll rfl (lG _ _ _ q (by exact hS.rd) (hq.sat hS) hlq) ?_;clear hA a;rintro e w ⟨t2,ls2,rfl,hT2,hT⟩;replace hS:Sat _ _ (_::_::_):=hS.ai hT;clear hT;refine⟨_,rfl,?_⟩;intro a hA;refine⟨.inl rfl,?_⟩;refine rX [6,7] hA ?_;clear hA a;intro a hA;refine ak (by kernel_rfl) ?_ _;replace hA:=hA.kp [4,5,6] rfl
    first
     | exact⟨t1,t2,ls1,ls2,hA,((((hS.p 1).p 1).p 4).p 4).cZ [_,_,_,_],(by exact hT1),(by exact hT2)⟩
   ·refine vI (vss:=[[_,_]]) hA rfl rfl rfl fK pM rfl rfl rfl (by simp) rfl hS ?_;clear hA a hS;intro A12 w hS;intro a hA;refine⟨.inr fun _=>(by exact⟨[_,_],hS⟩),?_⟩;refine aG 2 (by kernel_rfl) ?_;refine eF hA rfl rfl ll rfl (lG _ _ _ p (by exact (hS.p 1).rd) (hp.sat hS) hlp) ?_;clear hA a;rintro e w ⟨t1,ls1,rfl,hT1,hT⟩;replace hS:Sat _ _ (_::_::_):=hS.ai hT;clear hT;refine⟨_,rfl,?_⟩;intro a hA;refine⟨.inr fun _=>(by exact⟨[_,_,_,_],hS⟩),?_⟩;refine aG 5 (by kernel_rfl) ?_;refine eF hA rfl rfl ll rfl (lG _ _ _ q (by exact (hS.p 2).rd) (hq.sat hS) hlq) ?_;clear hA a;rintro e w ⟨t2,ls2,rfl,hT2,hT⟩;replace hS:Sat _ _ (_::_::_):=hS.ai hT;clear hT;refine⟨_,rfl,?_⟩;intro a hA;refine⟨.inl rfl,?_⟩;refine rX [6,7] hA ?_;clear hA a;intro a hA;refine ak (by kernel_rfl) ?_ _;replace hA:=hA.kp [4,5,6] rfl
    first
     | exact⟨t1,t2,ls1,ls2,hA,((((hS.p 1).p 1).p 3).p 3).cZ [_,_,_,_],(by exact hT1),(by exact hT2)⟩
  ·refine vI (vss:=[[_,_]]) hA rfl rfl rfl fK pM rfl rfl rfl (by simp) rfl hS ?_;clear hA a hS;intro A12 w hS;intro a hA;refine⟨.inr fun _=>(by exact⟨[_],hS⟩),?_⟩;refine aG 1 (by kernel_rfl) ?_;refine vI (vss:=[[_,_]]) hA rfl rfl rfl fK pM rfl rfl rfl (by simp) rfl hS ?_;clear hA a hS;intro A9 w hS;intro a hA;refine⟨.inr fun _=>(by exact⟨[_,_],hS⟩),?_⟩;refine aG 2 (by kernel_rfl) ?_;refine eF hA rfl rfl ll rfl (lG _ _ _ p (by exact hS.rd) (hp.sat hS) hlp) ?_;clear hA a;rintro e w ⟨t1,ls1,rfl,hT1,hT⟩;replace hS:Sat _ _ (_::_::_):=hS.ai hT;clear hT;refine⟨_,rfl,?_⟩;intro a hA;refine⟨.inr fun _=>(by exact⟨[_,_,_,_],hS⟩),?_⟩;refine aG 5 (by kernel_rfl) ?_;refine eF hA rfl rfl ll rfl (lG _ _ _ q (by exact (hS.p 3).rd) (hq.sat hS) hlq) ?_;clear hA a;rintro e w ⟨t2,ls2,rfl,hT2,hT⟩;replace hS:Sat _ _ (_::_::_):=hS.ai hT;clear hT;refine⟨_,rfl,?_⟩
   intro a hA;refine⟨.inl rfl,?_⟩;refine rX [6,7] hA ?_;clear hA a;intro a hA;refine ak (by kernel_rfl) ?_ _;replace hA:=hA.kp [4,5,6] rfl
   first
    | exact⟨t1,t2,ls1,ls2,hA,((((hS.p 1).p 1).p 3).p 3).cZ [_,_,_,_],(by exact hT1),(by exact hT2)⟩
 ·intro a w hI;clear hS hA;obtain⟨t1,t2,ls1,ls2,hA,hS,hT1,hT2⟩:=hI;refine rC 7 hA ?_;clear hA a;intro a hA;refine wp_loop_ghost (fun (mm:Nat) a w=>∃(r:Nat),Ag a 39 [(5,.pointer (some ⟨t1,0,none⟩)),(6,.pointer (some ⟨t2,0,none⟩)),(14,.int .i64 ((r:Nat):Int))]∧Sat W w ([jU 355 t1 ls1,bt (ls1.map (Loc.jn 357)),jU 355 t2 ls2,bt (ls2.map (Loc.jn 357))])∧(r≤16)∧(∀k,k<r→ed (ax (cM p.d k)) (ax (cM q.d k))=[])∧mm=16-r) 16 ?_ ?_
  ·replace hA:=hA.kp [5,6,14] rfl;exact⟨0,hA,hS,(by omega),(by exact fun k hk=>absurd hk (Nat.not_lt_zero k)),by omega⟩
  intro m a w hI;clear hS hA;obtain⟨r,hA,hS,hr,hw,rfl⟩:=hI;refine rC 2 hA ?_;clear hA a;refine aR 0 0 (aw rfl rfl) ?_ ?_
  ·intro h15;obtain⟨lA,lc,hl1⟩:=hT1.get (show r<16 by omega);obtain⟨mA,mc,hl2⟩:=hT2.get (show r<16 by omega);have hrl:=rz hlp r (by omega);have hrm:=rz hlq r (by omega);refine uO 15 ?_;intro a hA;refine bh [18] hS (by kernel_rfl) ?_;replace hS:=hS.drew;refine rX [0,1] hA ?_;clear hA a;refine bz 2 [] rfl (fun w=>(a7 rfl)) ?_;refine bz 3 [] rfl (fun w=>(aW rfl rfl lK iV (by omega) (by omega))) ?_;refine cT 4 [] rfl (by exact⟨[],hS⟩) (fun w hT=>have hS:=hT.sat;(aq rfl kT (gT hS hl1))) ?_;refine bz 5 [] rfl (fun w=>(ar rfl bU)) ?_;intro a hA;refine K.GW 6 hA pk rfl rfl rfl rfl (by kernel_rfl) (by kernel_rfl) (by kernel_rfl) (fun w=>(dv (hA.ev rfl) (hA.ev rfl))) ?_ ?_
   ·clear hA a;intro h23;intro a hA;dsimp only at h23;refine rX [7,8,9] hA ?_;clear hA a;refine bz 10 [] rfl (fun w=>(a7 rfl)) ?_;refine bz 11 [] rfl (fun w=>(aW rfl rfl lK iV (by omega) (by omega))) ?_;refine cT 12 [13,14] rfl (by exact⟨[],hS⟩) (fun w hT=>have hS:=hT.sat;(aq rfl kT (gT hS hl1))) ?_;refine bz 15 [] rfl (fun w=>(a7 rfl)) ?_;refine bz 16 [] rfl (fun w=>(aW rfl rfl lK iV (by omega) (by omega))) ?_;refine cT 17 [] rfl (by exact⟨[],hS⟩) (fun w hT=>have hS:=hT.sat;(aq rfl kT (gT (hS.p 2) hl2))) ?_;intro a hA;refine aG 18 (by kernel_rfl) ?_;refine Fc hA rfl (ao hA rfl rfl rfl) rfl Ii rfl (xH _ lA lc (cM p.d r) mA mc (cM q.d r) (ry (hS.p 1) hl1) (ry (hS.p 3) hl2) hrl hrm) ?_;clear hA a;rintro e w ⟨rfl,hT⟩;replace hS:Sat _ _ _:=hS.ai hT;clear hT;refine⟨_,rfl,?_⟩
    intro a hA;refine⟨.inl rfl,?_⟩;refine K.C7 19 hA pk rfl (ao hA rfl rfl rfl) rfl rfl (by kernel_rfl) (by kernel_rfl) (by kernel_rfl) (fun w=>(aM (hA.ev rfl))) ?_ ?_
    ·clear hA a;intro h36;intro a hA;simp only[decide_eq_decide,decide_eq_true_eq,decide_eq_false_iff_not,Bool.not_eq_true',Bool.not_eq_false',bne_iff_ne,ne_eq,beq_iff_eq,Bool.not_eq_true,Bool.not_eq_false]at h36;refine rX [20] hA ?_;clear hA a;intro a hA;refine ak (by kernel_rfl) ?_ _;refine rE 13 hA ?_;clear hA a;refine aX ?_;exact⟨by rw[C8 (by omega) h36],hS.nil⟩
    ·clear hA a;intro h36;intro a hA;simp only[decide_eq_decide,decide_eq_true_eq,decide_eq_false_iff_not,Bool.not_eq_true',Bool.not_eq_false',bne_iff_ne,ne_eq,beq_iff_eq,Bool.not_eq_true,Bool.not_eq_false]at h36;refine rX [20] hA ?_;clear hA a;intro a hA;refine ak (by kernel_rfl) ?_ _;refine rE 6 hA ?_;clear hA a;refine u1 2 (ah rfl rfl (by omega) (by omega)) ?_;intro a hA;replace hA:=hA.kp [5,6,14] rfl;refine⟨16-(r+1),by omega,r+1,hA,hS,by omega,fun k hk=>?_,rfl⟩;rcases Nat.lt_or_ge k r with hkr | hkr
     ·exact hw k hkr
     ·obtain rfl:k=r:=by omega
      exact h36
   ·clear hA a;intro h23;intro a hA;dsimp only at h23;refine rX [7,8,9,10,11,12,13,14,15,16,17,18,19,20] hA ?_;clear hA a;intro a hA;refine ak (by kernel_rfl) ?_ _;refine rE 6 hA ?_;clear hA a;refine u1 2 (ah rfl rfl (by omega) (by omega)) ?_;intro a hA;replace hA:=hA.kp [5,6,14] rfl;refine⟨16-(r+1),by omega,r+1,hA,hS,by omega,fun k hk=>?_,rfl⟩;rcases Nat.lt_or_ge k r with hkr | hkr
    ·exact hw k hkr
    ·obtain rfl:k=r:=by omega
     exact y5 _ (by omega)
  ·intro h15;refine uO 15 ?_;refine aX ?_;exact⟨by rw[zO fun k hk=>hw k (by omega)],hS.nil⟩
theorem Ak (W:World)(p q:PL)(hp:p.ok W)(hq:q.ok W)(hlp:p.d.ab.length≤10000000000)(hlq:q.d.ab.length≤10000000000):Calls Tryz.prog 390 #[.agg #[.slice p.va p.d.vec.length p.vc,.slice p.ca p.d.ab.length p.cc],.agg #[.slice q.va q.d.vec.length q.vc,.slice q.ca q.d.ab.length q.cc],.func (.func 388) #[] #[]] W fun e w'=>∃z:PL,e=.returned (.agg #[.slice z.va z.d.vec.length z.vc,.slice z.ca z.d.ab.length z.cc])∧z.d=j4 p.d q.d∧Sat W w' [cI 3 z.va z.vc z.d.vec,bK 219 z.ca z.cc z.d.ab]:=by
 refine enter Tryz.func390 rfl rfl rfl (.cons (i:=0) rfl (.cons (i:=1) rfl (.cons (i:=2) rfl .nil))) ?_;have hS:=Sat.start W;refine uC 2 ?_;refine uB rfl hS ?_;clear hS;intro b3 w hS;refine uB rfl hS ?_;clear hS;intro b4 w hS;refine uN dL hS ?_;clear hS;intro b6 w hS;refine uO 2 ?_;intro a hA;replace hA:=hA.kp [2,3,4,6] rfl;refine eD (fun a w=>∃(t1 t2:Nat) (ls1 ls2:List (Loc bo)),Ag a 38 [(2,.func (.func 388) #[] #[]),(6,.pointer (some ⟨b6,0,none⟩)),(7,.pointer (some ⟨t1,0,none⟩)),(8,.pointer (some ⟨t2,0,none⟩))]∧Sat W w ([jU 355 t1 ls1,bt (ls1.map (Loc.jn 357)),jU 355 t2 ls2,bt (ls2.map (Loc.jn 357)),a8 b6 (.cells #[.slice none 0 0,.slice none 0 0] 63)])∧(ia ls1 (cM p.d))∧(ia ls2 (cM q.d))) ?_ ?_
 ·refine bh [5] hS (by kernel_rfl) ?_;replace hS:=hS.drew;refine X1 0 [] hA rfl (by exact⟨[],hS⟩) (fun w hT=>have hS:=hT.sat;(ad (cs:=[_,_]) (hA.ev rfl) a6 aC (by exact (hS.p 2).ag (xs:=[_,_]) rfl))) ?_;clear hA a;refine cT 3 [] rfl (by exact⟨[],hS⟩) (fun w hT=>have hS:=hT.sat;(ad (cs:=[_,_]) rfl a6 aC (by exact (hS.p 1).ag (xs:=[_,_]) rfl))) ?_;intro a hA;refine mZ 1 4 (by kernel_rfl) ?_ ?_
  ·refine vI (vss:=[[_,_]]) hA rfl rfl rfl fK pM rfl rfl rfl (by simp) rfl hS ?_;clear hA a hS;intro A11 w hS;intro a hA;refine⟨.inr fun _=>(by exact⟨[_],hS⟩),?_⟩;refine mZ 2 4 (by kernel_rfl) ?_ ?_
   ·refine eF hA rfl rfl ll rfl (lG _ _ _ p (by exact hS.rd) (hp.sat hS) hlp) ?_;clear hA a;rintro e w ⟨t1,ls1,rfl,hT1,hT⟩;replace hS:Sat _ _ (_::_::_):=hS.ai hT;clear hT;refine⟨_,rfl,?_⟩;intro a hA;refine⟨.inr fun _=>(by exact⟨[_,_,_],hS⟩),?_⟩;refine aG 4 (by kernel_rfl) ?_;refine vI (vss:=[[_,_]]) hA rfl rfl rfl fK pM rfl rfl rfl (by simp) rfl hS ?_;clear hA a hS;intro A14 w hS;intro a hA;refine⟨.inr fun _=>(by exact⟨[_,_,_,_],hS⟩),?_⟩;refine aG 5 (by kernel_rfl) ?_;refine eF hA rfl rfl ll rfl (lG _ _ _ q (by exact hS.rd) (hq.sat hS) hlq) ?_;clear hA a;rintro e w ⟨t2,ls2,rfl,hT2,hT⟩;replace hS:Sat _ _ (_::_::_):=hS.ai hT;clear hT;refine⟨_,rfl,?_⟩;intro a hA;refine⟨.inl rfl,?_⟩;refine rX [6,7] hA ?_;clear hA a;intro a hA;refine ak (by kernel_rfl) ?_ _;replace hA:=hA.kp [2,6,7,8] rfl
    first
     | exact⟨t1,t2,ls1,ls2,hA,(((((hS.p 6).p 2).p 2).p 5).p 5).cZ [_,_,_,_,_],(by exact hT1),(by exact hT2)⟩
   ·refine vI (vss:=[[_,_]]) hA rfl rfl rfl fK pM rfl rfl rfl (by simp) rfl hS ?_;clear hA a hS;intro A14 w hS;intro a hA;refine⟨.inr fun _=>(by exact⟨[_,_],hS⟩),?_⟩;refine aG 2 (by kernel_rfl) ?_;refine eF hA rfl rfl ll rfl (lG _ _ _ p (by exact (hS.p 1).rd) (hp.sat hS) hlp) ?_;clear hA a;rintro e w ⟨t1,ls1,rfl,hT1,hT⟩;replace hS:Sat _ _ (_::_::_):=hS.ai hT;clear hT;refine⟨_,rfl,?_⟩;intro a hA;refine⟨.inr fun _=>(by exact⟨[_,_,_,_],hS⟩),?_⟩;refine aG 5 (by kernel_rfl) ?_;refine eF hA rfl rfl ll rfl (lG _ _ _ q (by exact (hS.p 2).rd) (hq.sat hS) hlq) ?_;clear hA a;rintro e w ⟨t2,ls2,rfl,hT2,hT⟩;replace hS:Sat _ _ (_::_::_):=hS.ai hT;clear hT;refine⟨_,rfl,?_⟩;intro a hA;refine⟨.inl rfl,?_⟩;refine rX [6,7] hA ?_;clear hA a;intro a hA;refine ak (by kernel_rfl) ?_ _;replace hA:=hA.kp [2,6,7,8] rfl
    first
     | exact⟨t1,t2,ls1,ls2,hA,(((((hS.p 6).p 2).p 2).p 4).p 4).cZ [_,_,_,_,_],(by exact hT1),(by exact hT2)⟩
  ·refine vI (vss:=[[_,_]]) hA rfl rfl rfl fK pM rfl rfl rfl (by simp) rfl hS ?_;clear hA a hS;intro A14 w hS;intro a hA;refine⟨.inr fun _=>(by exact⟨[_],hS⟩),?_⟩;refine aG 1 (by kernel_rfl) ?_;refine vI (vss:=[[_,_]]) hA rfl rfl rfl fK pM rfl rfl rfl (by simp) rfl hS ?_;clear hA a hS;intro A11 w hS;intro a hA;refine⟨.inr fun _=>(by exact⟨[_,_],hS⟩),?_⟩;refine aG 2 (by kernel_rfl) ?_;refine eF hA rfl rfl ll rfl (lG _ _ _ p (by exact hS.rd) (hp.sat hS) hlp) ?_;clear hA a;rintro e w ⟨t1,ls1,rfl,hT1,hT⟩;replace hS:Sat _ _ (_::_::_):=hS.ai hT;clear hT;refine⟨_,rfl,?_⟩;intro a hA;refine⟨.inr fun _=>(by exact⟨[_,_,_,_],hS⟩),?_⟩;refine aG 5 (by kernel_rfl) ?_;refine eF hA rfl rfl ll rfl (lG _ _ _ q (by exact (hS.p 3).rd) (hq.sat hS) hlq) ?_;clear hA a;rintro e w ⟨t2,ls2,rfl,hT2,hT⟩;replace hS:Sat _ _ (_::_::_):=hS.ai hT;clear hT;refine⟨_,rfl,?_⟩
   intro a hA;refine⟨.inl rfl,?_⟩;refine rX [6,7] hA ?_;clear hA a;intro a hA;refine ak (by kernel_rfl) ?_ _;replace hA:=hA.kp [2,6,7,8] rfl
   first
    | exact⟨t1,t2,ls1,ls2,hA,(((((hS.p 6).p 2).p 2).p 4).p 4).cZ [_,_,_,_,_],(by exact hT1),(by exact hT2)⟩
 ·intro a w hI;clear hS hA;obtain⟨t1,t2,ls1,ls2,hA,hS,hT1,hT2⟩:=hI;refine rC 7 hA ?_;clear hA a;intro a hA;refine wp_loop_ghost (fun (mm:Nat) a w=>∃(r:Nat) (ls1:List (Loc bo)),Ag a 38 [(2,.func (.func 388) #[] #[]),(6,.pointer (some ⟨b6,0,none⟩)),(7,.pointer (some ⟨t1,0,none⟩)),(8,.pointer (some ⟨t2,0,none⟩)),(16,.int .i64 ((r:Nat):Int))]∧Sat W w ([jU 355 t1 ls1,bt (ls1.map (Loc.jn 357)),jU 355 t2 ls2,bt (ls2.map (Loc.jn 357)),a8 b6 (.cells #[.slice none 0 0,.slice none 0 0] 63)])∧(r≤16)∧(ia ls1 (ox p.d q.d r))∧mm=16-r) 16 ?_ ?_
  ·replace hA:=hA.kp [2,6,7,8,16] rfl;exact⟨0,ls1,hA,hS,(by omega),(by exact hT1.congr fun k _=>rfl),by omega⟩
  intro m a w hI;clear hS hA;obtain⟨r,ls1,hA,hS,hr,hT1,rfl⟩:=hI;refine rC 2 hA ?_;clear hA a;refine aR 0 0 (aw rfl rfl) ?_ ?_
  ·intro h17;obtain⟨lA,lc,hl1⟩:=hT1.get (show r<16 by omega);obtain⟨mA,mc,hl2⟩:=hT2.get (show r<16 by omega);have hrl:=rz hlp r (by omega);have hrm:=rz hlq r (by omega);intro a hA;rw[Ei]at hl1;refine rO 14 hA ?_;clear hA a;intro a hA;refine bh [13,16] hS (by kernel_rfl) ?_;replace hS:=hS.drew;refine rX [0,1,2,3,4] hA ?_;clear hA a;refine bz 5 [] rfl (fun w=>(a7 rfl)) ?_;refine bz 6 [] rfl (fun w=>(aW rfl rfl lK iV (by omega) (by omega))) ?_;refine cT 7 [8,9] rfl (by exact⟨[],hS⟩) (fun w hT=>have hS:=hT.sat;(aq rfl kT (gT hS hl1))) ?_;refine bz 10 [] rfl (fun w=>(a7 rfl)) ?_;refine bz 11 [] rfl (fun w=>(aW rfl rfl lK iV (by omega) (by omega))) ?_;refine cT 12 [] rfl (by exact⟨[],hS⟩) (fun w hT=>have hS:=hT.sat;(aq rfl kT (gT (hS.p 2) hl2))) ?_;refine bz 14 [] rfl (fun w=>(a7 rfl)) ?_
   intro a hA;refine aG 13 (by kernel_rfl) ?_;refine eV hA rfl rfl GQ rfl rfl (sB _ lA lc (cM p.d r) mA mc (cM q.d r) (ry (hS.p 1) hl1) (ry (hS.p 3) hl2) hrl hrm) ?_;clear hA a;rintro e w ⟨A32,c32,rfl,hT⟩;replace hS:=hS.aB hT;clear hT;refine⟨_,rfl,?_⟩;intro a hA;refine⟨.inl rfl,?_⟩;refine P1 15 [] hA rfl (fun w=>(aW (hA.ev rfl) (hA.ev rfl) lK iV (by omega) (by omega))) ?_;clear hA a;intro a hA;refine aG 16 (by kernel_rfl) ?_;refine eT (i:=r) ⟨A32,c32,ed (aN p.d r) (aN q.d r)⟩ hA rfl rfl (by simp) rfl rfl kT iV (hS.p 1) hl1 ?_;clear hS;intro w hS;refine⟨.inl rfl,?_⟩;refine ak (by kernel_rfl) ?_ _;refine rE 3 hA ?_;clear hA a;refine u1 2 (ah rfl rfl (by omega) (by omega)) ?_;intro a hA;replace hA:=hA.kp [2,6,7,8,16] rfl;have hS2:=((hS.p 2).dN (qp hl1)).drop
   have hS3:=s5 hl1 (l':=⟨A32,c32,ed (aN p.d r) (aN q.d r)⟩) (((hS2.p 1).p 1).p 2);refine⟨16-(r+1),by omega,r+1,_,hA,(((((hS3.p 4).p 4).p 4).p 3).p 4).cZ [_,_,_,_,_],by omega,?_,rfl⟩;exact hT1.set (CN _ _ _).symm fun k hk hne=>Cn hne
  ·intro h17;obtain rfl:r=16:=by omega
   refine uO 12 ?_;refine uF By rfl (lE _ _ _ t1 ls1 (ox p.d q.d 16) hS hT1 (Eh hlp hlq)) ?_;rintro e w ⟨z,rfl,hz,hT⟩;replace hS:Sat _ _ (_::_::_):=hS.ai hT;clear hT;refine⟨_,rfl,?_⟩;refine uW (vs:=[_,_]) (cs':=[_,_]) rfl rfl aC (hS.p 6) ?_;clear hS;intro w hS;refine uO 3 ?_;intro a hA;refine gX hA rfl (dg (cs:=[_,_]) hA rfl a6 aC (by exact hS.ag (xs:=[_,_]) rfl)) ?_;exact⟨z,rfl,by rw[hz,Bd],oO ((hS.p 2).p 2)⟩
theorem qG (W:World)(p q:PL)(hp:p.ok W)(hq:q.ok W)(hlp:p.d.ab.length≤10000000000)(hlq:q.d.ab.length≤10000000000):Calls Tryz.prog 375 #[.agg #[.slice p.va p.d.vec.length p.vc,.slice p.ca p.d.ab.length p.cc],.agg #[.slice q.va q.d.vec.length q.vc,.slice q.ca q.d.ab.length q.cc]] W fun e w'=>∃z:PL,e=.returned (.agg #[.slice z.va z.d.vec.length z.vc,.slice z.ca z.d.ab.length z.cc])∧z.d=j4 p.d q.d∧Sat W w' [cI 3 z.va z.vc z.d.vec,bK 219 z.ca z.cc z.d.ab]:=by
 refine enter Tryz.func375 rfl rfl rfl (.cons (i:=0) rfl (.cons (i:=1) rfl .nil)) ?_;have hS:=Sat.start W;refine uC 2 ?_;refine uB rfl hS ?_;clear hS;intro b2 w hS;refine uB rfl hS ?_;clear hS;intro b3 w hS;refine uN dL hS ?_;clear hS;intro b4 w hS;refine uO 4 ?_;refine u1 0 (ad (cs:=[_,_]) rfl a6 aC (by exact (hS.p 2).ag (xs:=[_,_]) rfl)) ?_;refine u1 0 (ad (cs:=[_,_]) rfl a6 aC (by exact (hS.p 1).ag (xs:=[_,_]) rfl)) ?_;refine uF Jz rfl (Ak _ p q (hp.sat hS) (hq.sat hS) hlp hlq) ?_;rintro e w ⟨z,rfl,hz,hT⟩;replace hS:Sat _ _ (_::_::_):=hS.ai hT;clear hT;refine⟨_,rfl,?_⟩;refine uW (vs:=[_,_]) (cs':=[_,_]) rfl rfl aC (hS.p 2) ?_;clear hS;intro w hS;refine uO 3 ?_;intro a hA;refine gX hA rfl (dg (cs:=[_,_]) hA rfl a6 aC (by exact hS.ag (xs:=[_,_]) rfl)) ?_;exact⟨z,rfl,hz,oO ((hS.p 2).p 2)⟩
theorem Ee (W:World)(A:Option Addr)(c:Nat)(xs:List gw)(hR:GR W A c xs)(hl:xs.length≤10000000000):Calls Tryz.prog 276 #[.slice A (xs).length c] W fun e w'=>∃q:PL,e=.returned (.agg #[.slice q.va q.d.vec.length q.vc,.slice q.ca q.d.ab.length q.cc])∧q.d=l0 xs∧Sat W w' [cI 3 q.va q.vc q.d.vec,bK 219 q.ca q.cc q.d.ab]:=by
 refine enter Tryz.func276 rfl rfl rfl (.cons (i:=0) rfl .nil) ?_;have hS:=Sat.start W;refine uC 2 ?_;refine uN dL hS ?_;clear hS;intro b2 w hS;refine uO 4 ?_;intro a hA;refine o1 0 hA (aP hA rfl DU) ?_;clear hA a;refine uB rfl hS ?_;clear hS;intro b7 w hS;refine uO 7 ?_;refine u1 4 (ar rfl oA) ?_;intro a hA;refine wp_loop_ghost (fun (mm:Nat) a w=>∃(i:Nat) (ls:List (Loc bo)),Ag a 37 [(2,.pointer (some ⟨b2,0,none⟩)),(3,.pointer (some ⟨b7,0,none⟩)),(8,.slice A (xs).length c),(9,.int .i64 ((xs.length:Nat):Int)),(10,.int .i64 ((i:Nat):Int))]∧Sat W w ([jU 355 b7 ls,bt (ls.map (Loc.jn 357)),a8 b2 (.cells #[.slice none 0 0,.slice none 0 0] 63)])∧(i≤xs.length)∧(ia ls (kX (xs.take i)))∧mm=xs.length-i) xs.length ?_ ?_
 ·replace hA:=hA.kp [2,3,8,9,10] rfl;have hS1:Sat W w [jU 355 b7 (List.replicate 16 wh),bt ((List.replicate 16 wh).map (Loc.jn 357)),a8 b2 (.cells #[.slice none 0 0,.slice none 0 0] 63)]:=(rj 357 hS 16).p 1;exact⟨0,_,hA,hS1,(by omega),(by exact sj.congr fun r _=>rfl),by omega⟩
 intro m a w hI;clear hS hA;obtain⟨i,ls,hA,hS,hi,hT,rfl⟩:=hI;refine rC 2 hA ?_;clear hA a;refine aR 0 0 (aw rfl rfl) ?_ ?_
 ·intro h11;refine uO 10 ?_;obtain⟨A_p,rfl⟩:∃q,A=some q:=(hR.sat hS).av (by omega);obtain⟨d,hx⟩:∃zz_,xs[i]?=some zz_:=⟨_,List.getElem?_eq_getElem (by omega)⟩;refine u1 0 (aj rfl rfl oA dZ (by omega) (by omega)) ?_;refine u1 0 (ad (cs:=pA d) rfl gk dZ (fun j u e=>bJ (hR.sat hS) (sX hx j u e))) ?_;refine uN BU hS ?_;clear hS;intro b5 w hS;refine uW (vs:=[_,_]) (cs':=[_,_]) rfl rfl dZ hS ?_;clear hS;intro w hS;refine uO 4 ?_;refine u1 0 (ad (cs:=[_,_]) rfl gk dZ (by exact hS.ag (xs:=[_,_]) rfl)) ?_;refine uF Gy rfl (sn _ d.rep d.num) ?_;rintro e w ⟨rfl,hT9⟩;replace hS:Sat _ _ _:=hS.ai hT9;clear hT9;generalize h15:dD d.rep d.num=bb;cases bb
  ·refine⟨_,rfl,?_⟩;refine uO 7 ?_;refine u1 2 (ah rfl rfl (by omega) (by omega)) ?_;intro a hA;replace hA:=hA.kp [2,3,8,9,10] rfl;refine⟨xs.length-(i+1),by omega,i+1,ls,hA,hS.drop,by omega,?_,rfl⟩;exact hT.congr fun k hk=>by rw[oy hx,if_neg (by rw[h15];simp),List.append_nil]
  ·have hdot:=h15;unfold dD at hdot;simp only[Bool.and_eq_true,decide_eq_true_eq]at hdot;obtain⟨lA,lc,hl'⟩:=hT.get (show d.rep.toNat<16 by omega);have hlen:=tU (xs.take i) d.rep.toNat;rw[List.length_take]at hlen;replace hS:Sat W w (eX 357 lA lc (kX (xs.take i) d.rep.toNat)::_):=(hS.p 2).dN (qp hl');refine⟨_,rfl,?_⟩;refine uO 3 ?_;intro a hA;refine jh [18] (lr W [bt ((ls.map (Loc.jn 357)).eraseIdx d.rep.toNat),a8 b5 (.cells #[.int .i64 d.rep,.int .i64 d.num] 214),jU 355 b7 ls,a8 b2 (.cells #[.slice none 0 0,.slice none 0 0] 63)]) (by kernel_rfl) ?_;replace hS:=hS.drew;refine rX [0] hA ?_;clear hA a
   refine bz 1 [] rfl (fun w=>(aa rfl bw)) ?_;refine cT 2 [3] rfl (by exact⟨[_],hS⟩) (fun w hT=>have hS:=hT.sat;(ld rfl aQ)) ?_;refine bz 4 [] rfl (fun w=>(aa rfl bw)) ?_;refine cT 5 [] rfl (by exact⟨[_],hS⟩) (fun w hT=>have hS:=hT.sat;(ld rfl aQ)) ?_;refine bz 6 [] rfl (fun w=>(a7 rfl)) ?_;refine bz 7 [] rfl (fun w=>(aW rfl rfl lK iV (by omega) (by omega))) ?_;refine cT 8 [] rfl (by exact⟨[_],hS⟩) (fun w hT=>have hS:=hT.sat;(aq rfl kT (gT (hS.p 2) hl'))) ?_;refine bz 9 [] rfl (fun w=>(aa rfl bQ)) ?_;refine cT 10 [] rfl (by exact⟨[_],hS⟩) (fun w hT=>have hS:=hT.sat;(ld rfl aQ)) ?_;refine bz 11 [] rfl (fun w=>(aa rfl bQ)) ?_;refine cT 12 [] rfl (by exact⟨[_],hS⟩) (fun w hT=>have hS:=hT.sat;(ld rfl aQ)) ?_;intro a hA
   refine P1 13 [] hA rfl (fun w=>(aP hA rfl kC)) ?_;clear hA a;refine bz 16 [] rfl (fun w=>(a7 rfl)) ?_;intro a hA;refine aG 14 (by kernel_rfl) ?_;refine vI (vss:=[[_,_]]) hA rfl rfl rfl bU iy rfl rfl rfl (by simp) rfl hS ?_;clear hA a hS;intro A30 w hS;intro a hA;refine⟨.inr fun _=>(by exact⟨[_,_],hS⟩),?_⟩;refine aG 15 (by kernel_rfl) ?_;refine eA hA rfl rfl rfl rfl bU iy rfl (hS.p 1) (hS.rd.src bU (by simp[Value.oneCell'])) (by omega) (by omega) ?_;clear hA a hS;intro A31 c31 w hc31 hS;intro a hA;refine⟨.inr fun _=>(by exact⟨[_,_],hS⟩),?_⟩;refine P1 17 [] hA rfl (fun w=>(aW (hA.ev rfl) (hA.ev rfl) lK iV (by omega) (by omega))) ?_;clear hA a;intro a hA;refine aG 18 (by kernel_rfl) ?_
   refine eT (i:=d.rep.toNat) ⟨A31,c31,kX (xs.take i) d.rep.toNat++[(d.num,d.num)]⟩ hA rfl rfl (by simp) rfl (by simp[Loc.v]) kT iV (hS.p 4) hl' ?_;clear hS;intro w hS;refine⟨.inl rfl,?_⟩;refine ak (by kernel_rfl) ?_ _;refine rE 3 hA ?_;clear hA a;refine u1 2 (ah rfl rfl (by omega) (by omega)) ?_;intro a hA;replace hA:=hA.kp [2,3,8,9,10] rfl;have hS2:=s5 hl' (l':=⟨A31,c31,kX (xs.take i) d.rep.toNat++[(d.num,d.num)]⟩) (iH ((hS.p 3).p 2) (by simp) (by simp[gW]));refine⟨xs.length-(i+1),by omega,i+1,_,hA,(((hS2.p 4).p 1).p 2).cZ [_,_,_],by omega,?_,rfl⟩;refine hT.set ?_ fun k hk hne=>?_
   ·rw[oy hx,if_pos ⟨h15,by omega⟩]
   ·rw[oy hx,if_neg (fun hh=>hne (by have:=hh.2;omega)),List.append_nil]
 ·intro h11;obtain rfl:i=xs.length:=by omega
  intro a hA;rw[List.take_length]at hT;refine rO 12 hA ?_;clear hA a;refine uF By rfl (lE _ _ _ b7 ls (kX xs) hS hT (fun r _=>Nat.le_trans (tU xs r) (by omega))) ?_;rintro e w ⟨q,rfl,hq,hT9⟩;replace hS:Sat _ _ (_::_::_):=hS.ai hT9;clear hT9;refine⟨_,rfl,?_⟩;refine uW (vs:=[_,_]) (cs':=[_,_]) rfl rfl aC (hS.p 4) ?_;clear hS;intro w hS;refine uO 3 ?_;intro a hA;refine gX hA rfl (dg (cs:=[_,_]) hA rfl a6 aC (by exact hS.ag (xs:=[_,_]) rfl)) ?_;exact⟨q,rfl,by rw[hq,CI],oO ((hS.p 2).p 2)⟩
end Go.Proofs.YtkjabaihpkbfhaaGreat.Wk
namespace Go.Proofs.YtkjabaihpkbfhaaGreat.Wk
open Go Go.RowKit Go.Proofs.YtkjabaihpkbfhaaGreat Go.Proofs.YtkjabaihpkbfhaaGreat.K
def ej:List Int→List Int→List Int
 | [],m=>m
 | a::l,[]=>a::ej l []
 | a::l,b::m=>if a≤b then a::ej l (b::m) else b::ej (a::l) m
termination_by l m=>l.length+m.length
theorem iw:∀(k:Nat) (l m:List Int),l.length+m.length≤k→(ej l m).Perm (l++m)
 | _,[],m,_=>by rw[ej];exact .refl _
 | k, a :: l, [], h => by
   cases k with
   | zero=>simp at h
   | succ k=>rw[ej];exact (iw k l [] (by simp at h ⊢;omega)).cons a
 | 0,a::l,b::m,h=>by simp at h
 | k + 1, a :: l, b :: m, h => by
   simp only[List.length_cons]at h;rw[ej]
   split
   ·
    exact (iw k l (b::m) (by simp only[List.length_cons];omega)).cons a
   ·
    exact ((iw k (a::l) m (by simp only[List.length_cons];omega)).cons b).trans (List.perm_middle (l₁:=a::l) (a:=b) (l₂:=m)).symm
theorem oS:∀(k:Nat) (l m:List Int),l.length+m.length≤k→zM l→zM m→zM (ej l m)
 | _,[],m,_,_,hm=>by rw[ej];exact hm
 | k, a :: l, [], h, hl, hm => by
   cases k with
   | zero=>simp at h
   | succ k =>
     rw[ej];refine⟨fun x hx=>?_,oS k l [] (by simp at h ⊢;omega) hl.2 trivial⟩;have:=(iw _ l [] (Nat.le_refl _)).mem_iff.1 hx;exact hl.1 x (by simpa using this)
 | 0,a::l,b::m,h,_,_=>by simp at h
 | k + 1, a :: l, b :: m, h, hl, hm => by
   simp only[List.length_cons]at h;rw[ej]
   split
   ·
    rename_i hab;refine⟨fun x hx=>?_,oS k l (b::m) (by simp only[List.length_cons];omega) hl.2 hm⟩;have:=(iw _ l (b::m) (Nat.le_refl _)).mem_iff.1 hx;rcases List.mem_append.1 this with h | h
    ·
     exact hl.1 x h
    ·
     rcases List.mem_cons.1 h with rfl | h
     ·
      exact hab
     ·
      have:=hm.1 x h;omega
   ·
    rename_i hab;refine⟨fun x hx=>?_,oS k (a::l) m (by simp only[List.length_cons];omega) hl hm.2⟩;have:=(iw _ (a::l) m (Nat.le_refl _)).mem_iff.1 hx;rcases List.mem_append.1 this with h | h
    ·
     rcases List.mem_cons.1 h with rfl | h
     ·
      omega
     ·
      have:=hl.1 x h;omega
    ·
     exact hm.1 x h
theorem KG {us vs:List Int}{i j:Nat}{u:Int}(hu:us[i]?=some u)(h:vs.length≤j∨∃v,vs[j]?=some v∧u≤v):ej (us.drop i) (vs.drop j)=u::ej (us.drop (i+1)) (vs.drop j):=by
 rw[aF hu];rcases h with h | ⟨v,hv,h⟩
 ·
  rw[List.drop_of_length_le h,ej]
 ·
  rw[aF hv,ej,if_pos h]
theorem I2 {us vs:List Int}{i j:Nat}{v:Int}(hv:vs[j]?=some v)(h:us.length≤i∨∃u,us[i]?=some u∧¬u≤v):ej (us.drop i) (vs.drop j)=v::ej (us.drop i) (vs.drop (j+1)):=by
 rw[aF hv];rcases h with h | ⟨u,hu,h⟩
 ·
  rw[List.drop_of_length_le h,ej,ej]
 ·
  rw[aF hu,ej,if_neg h]
theorem HH {us vs:List Int}{i j:Nat}(hi:us.length≤i)(hj:vs.length≤j):ej (us.drop i) (vs.drop j)=[]:=by rw[List.drop_of_length_le hi,List.drop_of_length_le hj,ej]
structure H2 (us vs:List Int)(i j d:Nat):Prop where
 a1:zM (us.drop i)
 a2:zM (vs.drop j)
 fit:fits (us.drop i) (vs.drop j) d
 Lx:d+us.length+j=vs.length+i
theorem GL {us vs:List Int}{i j d:Nat}{a b:Int}(h:H2 us vs i j d)(ha:us[i]?=some a)(hb:vs[j]?=some b)(hab:a≤b) :
 H2 us vs (i+1) j (d+1)∧fN (us.drop i) (vs.drop j) d=(if d=0 then [a] else [])++fN (us.drop (i+1)) (vs.drop j) (d+1):=by
 obtain⟨h1,h2,h3,h4⟩:=h;rw[aF ha]at h1 h3 ⊢;have h2':=h2;rw[aF hb]at h2' h3 ⊢;refine⟨⟨h1.2,h2,?_,by omega⟩,zG hab⟩;rw[aF hb];refine BL h3 (fun x hx=>?_) h1.1;rcases List.mem_cons.1 hx with rfl | hx
 ·
  exact hab
 ·
  have:=h2'.1 x hx;omega
theorem xg {us vs:List Int}{i j d:Nat}{b:Int}(h:H2 us vs i j d)(hb:vs[j]?=some b)(hab:us.length≤i∨∃a,us[i]?=some a∧¬a≤b) :
 1≤d∧H2 us vs i (j+1) (d-1)∧fN (us.drop i) (vs.drop j) d=(if d=1 then [b] else [])++fN (us.drop i) (vs.drop (j+1)) (d-1):=by
 obtain⟨h1,h2,h3,h4⟩:=h;rw[aF hb]at h2 h3 ⊢
 have hgt:∀x∈us.drop i,b<x:=by
  rcases hab with h | ⟨a,ha,h⟩
  ·
   rw[List.drop_of_length_le h];intro x hx;cases hx
  ·
   rw[aF ha]at h1 ⊢;intro x hx;rcases List.mem_cons.1 hx with rfl | hx
   ·
    omega
   ·
    have:=h1.1 x hx;omega
 obtain⟨hd,hf⟩:=vo h3 hgt h2.1;refine⟨hd,⟨h1,h2.2,hf,by omega⟩,?_⟩;rcases hab with h | ⟨a,ha,h⟩
 ·
  rw[List.drop_of_length_le h,vb]
 ·
  rw[aF ha,wS h]
theorem EM {raw:List bo}{us vs:List Int}(hi:zM us)(ho:zM vs)(pi:us.Perm ((fo raw).map Prod.fst))(po:vs.Perm ((fo raw).map fun r=>r.2+1)):H2 us vs 0 0 0:=by
 have hc:=fun n=>u6 (l:=fo raw) (fun r hr=>(nX r hr).2.1) n
 refine⟨hi,ho,fun n=>?_,by rw[pi.length_eq,po.length_eq];simp⟩;rw[List.drop_zero,List.drop_zero,mK po,mK pi];have:=(hc n).1;omega
def cb (r:Int)(a b:Bool):Bool:=(decide (r=1) && a && b) || (decide (r=2) && a && !b)
def cx (i:Nat):Bool:=decide (i % 2=1)
theorem qF (i:Nat):cx (i+1)=!cx i:=by
 unfold cx
 by_cases h:i % 2=1
 ·
  rw[decide_eq_true h,decide_eq_false (by omega)];rfl
 ·
  rw[decide_eq_false h,decide_eq_true (by omega)];rfl
theorem K5 {f:Bool→Bool→Bool}{us vs:List Int}{i j:Nat}{u:Int}{now:Bool}(hu:us[i]?=some u)(h:vs.length≤j∨∃v,vs[j]?=some v∧u<v):comb f (us.drop i) (vs.drop j) (cx i) (cx j) now=(if f (cx (i+1)) (cx j)=now then [] else [u])++comb f (us.drop (i+1)) (vs.drop j) (cx (i+1)) (cx j) (f (cx (i+1)) (cx j)):=by
 rw[aF hu,qF];rcases h with h | ⟨v,hv,h⟩
 ·
  rw[List.drop_of_length_le h,comb]
 ·
  rw[aF hv,comb,if_pos h]
theorem Le {f:Bool→Bool→Bool}{us vs:List Int}{i j:Nat}{v:Int}{now:Bool}(hv:vs[j]?=some v)(h:us.length≤i∨∃u,us[i]?=some u∧v<u):comb f (us.drop i) (vs.drop j) (cx i) (cx j) now=(if f (cx i) (cx (j+1))=now then [] else [v])++comb f (us.drop i) (vs.drop (j+1)) (cx i) (cx (j+1)) (f (cx i) (cx (j+1))):=by
 rw[aF hv,qF];rcases h with h | ⟨u,hu,h⟩
 ·
  rw[List.drop_of_length_le h,comb]
 ·
  rw[aF hu,comb,if_neg (by omega),if_pos h]
theorem Kq {f:Bool→Bool→Bool}{us vs:List Int}{i j:Nat}{u:Int}{now:Bool}(hu:us[i]?=some u)(hv:vs[j]?=some u):comb f (us.drop i) (vs.drop j) (cx i) (cx j) now=(if f (cx (i+1)) (cx (j+1))=now then [] else [u])++comb f (us.drop (i+1)) (vs.drop (j+1)) (cx (i+1)) (cx (j+1)) (f (cx (i+1)) (cx (j+1))):=by
 rw[aF hu,aF hv,qF,qF,comb,if_neg (by omega),if_neg (by omega)]
theorem HQ {f:Bool→Bool→Bool}{us vs:List Int}{i j:Nat}{x y now:Bool}(hi:us.length≤i)(hj:vs.length≤j):comb f (us.drop i) (vs.drop j) x y now=[]:=by rw[List.drop_of_length_le hi,List.drop_of_length_le hj,comb]
theorem El {W:World}{A:Option Addr}{n c sz:Nat}{cs:List Value}(h:Rd W sz (.slice A n c) n cs):n≤c:=by
 obtain⟨_,_,h1,h2⟩:=h.form
 injection h1 with _ _ h3
 omega
theorem E6 {w:World}{A:Option Addr}{n c m:Nat}{cs:List Value}(h:Rd w 1 (.slice A n c) n cs)(hm:m≤n):Rd w 1 (.slice (ja A c 1 m) (n-m) (c-m)) (n-m) (cs.drop m):=by
 have:=Rd.Gr h m hm;rwa[Nat.mul_one]at this
end Go.Proofs.YtkjabaihpkbfhaaGreat.Wk
namespace Go.Proofs.YtkjabaihpkbfhaaGreat.Wk
open Go Go.RowKit Go.Proofs.YtkjabaihpkbfhaaGreat Go.Proofs.YtkjabaihpkbfhaaGreat.K Go.Proofs.YtkjabaihpkbfhaaGreat.T
theorem sv (W:World)(A:Option Addr)(n c:Nat)(xs:List Int)(hX:Rd W 1 (.slice A n c) n (xs.map (Value.int .i64)))(hl:n≤1000000000000)(ih:∀(W:World) (A:Option Addr) (m c:Nat) (xs:List Int),m<n→Rd W 1 (.slice A m c) m (xs.map (Value.int .i64))→Calls Tryz.prog 296 #[.slice A m c] W fun e w'=>∃A' c' ys,e=.returned (.slice A' ys.length c')∧ys.Perm xs∧zM ys∧Sat W w' [cI 3 A' c' ys]):Calls Tryz.prog 296 #[.slice A n c] W fun e w'=>∃A' c' ys,e=.returned (.slice A' ys.length c')∧ys.Perm xs∧zM ys∧Sat W w' [cI 3 A' c' ys]:=by
 refine enter Tryz.func296 rfl rfl rfl (.cons (i:=0) rfl .nil) ?_;have hS:=Sat.start W;have hnc:=El hX;have hxl:xs.length=n:=by have:=hX.len;simpa using this
 refine uC 9 ?_;refine u1 0 (ar rfl aE) ?_;refine aR 0 0 (aw rfl rfl) ?_ ?_
 ·intro h10;refine uO 5 ?_;intro a hA;refine F6 hA rfl aE jQ hS ?_;clear hA a hS;intro A11 w hS;refine uO 1 ?_;intro a hA;refine dy hA rfl rfl rfl aE jQ rfl hS ((hX.sat hS).src aE (y1 xs)) (by omega) (by omega) ?_;clear hA a hS;intro A13 c13 w hc13 hS;refine uO 5 ?_;refine aX ?_
  have e1:zM xs:=by
   rcases xs with _ | ⟨a,_ | ⟨b,l⟩⟩
   ·
    exact trivial
   ·
    exact⟨fun x hx=>(by cases hx),trivial⟩
   ·
    simp at hxl;omega
  refine⟨_,_,xs,pX (by omega),.refl _,e1,iH (fz hS) (by omega) (by simp)⟩
 ·intro h10;refine uO 9 ?_;refine u1 0 (ar rfl aE) ?_;refine u1 0 (kv rfl rfl (by omega) (by omega) (by omega)) ?_;refine u1 0 (aJ (oN rfl rfl aE fQ (by omega) (by omega)) (show _=Value.slice (ja A c 1 0) (n / 2) c from rfl)) ?_;refine uF B7 rfl (ih _ _ _ _ (xs.take (n / 2)) (by omega) (by rw[List.map_take];exact wJ (hX.sat hS) (by omega))) ?_;rintro e w ⟨A1,c1,us,rfl,hp1,ha1,hT⟩;have hl1:=hp1.length_eq;replace hS:=hS.aB hT;clear hT;refine⟨_,rfl,?_⟩;refine uO 7 ?_;refine u1 0 (ar rfl aE) ?_;refine u1 0 (kv rfl rfl (by omega) (by omega) (by omega)) ?_;refine u1 0 (aJ (wm rfl rfl aE fQ (by omega) (by omega)) (show _=Value.slice (ja A c 1 (n / 2)) (n-n / 2) (c-n / 2) from rfl)) ?_;refine uF B7 rfl (ih _ _ _ _ (xs.drop (n / 2)) (by omega) (by rw[List.map_drop];exact E6 (hX.sat hS) (by omega))) ?_
  rintro e w ⟨A2,c2,vs,rfl,hp2,ha2,hT⟩;have hl2:=hp2.length_eq;replace hS:=hS.aB hT;clear hT;refine⟨_,rfl,?_⟩;intro a hA;rw[List.length_take]at hl1;rw[List.length_drop]at hl2;refine rO 6 hA ?_;clear hA a;refine u1 0 (ar rfl aE) ?_;intro a hA;refine K7 (m:=0) hA rfl rfl rfl aE jQ rfl (by omega) (by omega) (by omega) hS ?_;clear hA a hS;intro b28 w hS;refine uO 3 ?_;intro a hA;replace hA:=hA.kp [2,3,4,5] rfl;refine rC 8 hA ?_;clear hA a;intro a hA
  refine wp_loop_ghost (fun (mm:Nat) a w=>∃(i j:Nat) (out:List Int) (Ao:Option Addr) (co:Nat),Ag a 79 [(3,.slice A1 (us).length c1),(4,.slice A2 (vs).length c2),(5,.slice Ao (out).length co),(6,.int .i64 ((i:Nat):Int)),(7,.int .i64 ((j:Nat):Int))]∧Sat W w ([cI 3 Ao co out,cI 3 A2 c2 vs,cI 3 A1 c1 us])∧(i≤us.length)∧(j≤vs.length)∧(out.length=i+j)∧(out++ej (us.drop i) (vs.drop j)=ej us vs)∧mm=us.length+vs.length-(i+j)) (us.length+vs.length) ?_ ?_
  ·replace hA:=hA.kp [3,4,5,6,7] rfl;exact⟨0,0,[],(some ⟨b28,0,none⟩),n,hA,hS,(by omega),(by omega),(by rfl),(by rfl),by omega⟩
  intro m a w hI;clear hS hA;obtain⟨i,j,out,Ao,co,hA,hS,hi,hj,hol,ho,rfl⟩:=hI;refine rC 5 hA ?_;clear hA a;refine u1 0 (ar rfl aE) ?_;refine aR 0 0 (aw rfl rfl) ?_ ?_
  ·intro h32;refine uO 13 ?_;intro a hA;refine cF (fun w'=>Sat _ w' _) (by kernel_rfl) (by kernel_rfl) hS.drew ?_;refine rQ 2 hA ?_;clear hA a;refine br 0 (fun w hS=>(ar rfl aE)) ?_;intro a hA;refine K.se hA rfl rfl rfl (fun w hS=>(bn (hA.ev rfl) (hA.ev rfl))) ?_ ?_
   ·clear hA a;intro h42;refine uQ 17 ?_;intro a hA;refine wpQuiet_nil ?_;clear hS;intro w hS;refine rE 7 hA ?_;clear hA a;obtain⟨A1_p,rfl⟩:∃q,A1=some q:=(hS.p 2).rd.av (by omega);obtain⟨u,hu⟩:∃zz_,us[i]?=some zz_:=⟨_,List.getElem?_eq_getElem (by omega)⟩;refine u1 0 (aj rfl rfl aE fQ (by omega) (by omega)) ?_;refine u1 0 (aq rfl aQ (gb (hS.p 2).rd (bu hu))) ?_;intro a hA;refine nC hA rfl rfl aE jQ rfl rfl rfl (by simp[Value.oneCell']) hS ?_;clear hA a hS;intro A65 w hS;intro a hA;refine dy hA rfl rfl rfl aE jQ rfl (hS.p 1) (hS.rd.src aE (by simp[Value.oneCell'])) (by omega) (by omega) ?_;clear hA a hS;intro A66 c66 w hc66 hS;refine uO 5 ?_;refine u1 3 (ah rfl rfl (by omega) (by omega)) ?_;intro a hA;replace hA:=hA.kp [3,4,5,6,7] rfl;rw[KG hu (.inl (by omega)),List.append_cons]at ho;have el:out.length+1=(out++[u]).length:=by simp
    rw[el]at hA;exact⟨us.length+vs.length-(i+1+j),by omega,i+1,j,out++[u],A66,c66,hA,rb (iH (((hS.p 3).p 3).p 2) el (by simp)),by omega,by omega,by simp;omega,ho,rfl⟩
   ·clear hA a;intro h42;refine uQ 3 ?_;refine br 0 (fun w hS=>(ar rfl aE)) ?_;intro a hA;refine K.oY hA (ao hA rfl rfl rfl) rfl rfl (fun w hS=>(aw (hA.ev rfl) (hA.ev rfl))) ?_ ?_
    ·clear hA a;intro h47;refine uQ 3 ?_;obtain⟨A1_p,rfl⟩:∃q,A1=some q:=(hS.p 2).rd.av (by omega);obtain⟨u,hu⟩:∃zz_,us[i]?=some zz_:=⟨_,List.getElem?_eq_getElem (by omega)⟩;refine br 0 (fun w hS=>(aj rfl rfl aE fQ (by omega) (by omega))) ?_;refine br 2 (fun w hS=>(aq rfl aQ (gb (hS.p 2).rd (bu hu)))) ?_;obtain⟨A2_p,rfl⟩:∃q,A2=some q:=(hS.p 1).rd.av (by omega);obtain⟨v,hv⟩:∃zz_,vs[j]?=some zz_:=⟨_,List.getElem?_eq_getElem (by omega)⟩;refine br 0 (fun w hS=>(aj rfl rfl aE fQ (by omega) (by omega))) ?_;refine br 0 (fun w hS=>(aq rfl aQ (gb (hS.p 1).rd (bu hv)))) ?_;intro a hA;refine K.oY hA (ao hA rfl rfl rfl) rfl rfl (fun w hS=>(du (hA.ev rfl) (hA.ev rfl))) ?_ ?_
     ·clear hA a;intro h57;refine uQ 2 ?_;intro a hA;refine wpQuiet_nil ?_;clear hS;intro w hS;refine rE 7 hA ?_;clear hA a;refine u1 0 (aj rfl rfl aE fQ (by omega) (by omega)) ?_;refine u1 0 (aq rfl aQ (gb (hS.p 2).rd (bu hu))) ?_;intro a hA;refine nC hA rfl rfl aE jQ rfl rfl rfl (by simp[Value.oneCell']) hS ?_;clear hA a hS;intro A65 w hS;intro a hA;refine dy hA rfl rfl rfl aE jQ rfl (hS.p 1) (hS.rd.src aE (by simp[Value.oneCell'])) (by omega) (by omega) ?_;clear hA a hS;intro A66 c66 w hc66 hS;refine uO 5 ?_;refine u1 3 (ah rfl rfl (by omega) (by omega)) ?_;intro a hA;replace hA:=hA.kp [3,4,5,6,7] rfl;rw[KG hu (.inr ⟨v,hv,h57⟩),List.append_cons]at ho;have el:out.length+1=(out++[u]).length:=by simp
      rw[el]at hA;exact⟨us.length+vs.length-(i+1+j),by omega,i+1,j,out++[u],A66,c66,hA,rb (iH (((hS.p 3).p 3).p 2) el (by simp)),by omega,by omega,by simp;omega,ho,rfl⟩
     ·clear hA a;intro h57;refine uQ 2 ?_;intro a hA;refine wpQuiet_nil ?_;clear hS;intro w hS;refine rE 7 hA ?_;clear hA a;refine u1 0 (aj rfl rfl aE fQ (by omega) (by omega)) ?_;refine u1 0 (aq rfl aQ (gb (hS.p 1).rd (bu hv))) ?_;intro a hA;refine nC hA rfl rfl aE jQ rfl rfl rfl (by simp[Value.oneCell']) hS ?_;clear hA a hS;intro A74 w hS;intro a hA;refine dy hA rfl rfl rfl aE jQ rfl (hS.p 1) (hS.rd.src aE (by simp[Value.oneCell'])) (by omega) (by omega) ?_;clear hA a hS;intro A75 c75 w hc75 hS;refine uO 5 ?_;refine u1 3 (ah rfl rfl (by omega) (by omega)) ?_;intro a hA;replace hA:=hA.kp [3,4,5,6,7] rfl;rw[I2 hv (.inr ⟨u,hu,h57⟩),List.append_cons]at ho;have el:out.length+1=(out++[v]).length:=by simp
      rw[el]at hA;exact⟨us.length+vs.length-(i+(j+1)),by omega,i,j+1,out++[v],A75,c75,hA,rb (iH (((hS.p 3).p 3).p 2) el (by simp)),by omega,by omega,by simp;omega,ho,rfl⟩
    ·clear hA a;intro h47;intro a hA;contradiction
  ·intro h32;refine uO 3 ?_;refine u1 0 (ar rfl aE) ?_;refine aR 0 0 (aw rfl rfl) ?_ ?_
   ·intro h37;refine uO 8 ?_;intro a hA;refine cF (fun w'=>Sat _ w' _) (by kernel_rfl) (by kernel_rfl) hS.drew ?_;refine rQ 2 hA ?_;clear hA a;refine br 0 (fun w hS=>(ar rfl aE)) ?_;intro a hA;refine K.se hA rfl rfl rfl (fun w hS=>(bn (hA.ev rfl) (hA.ev rfl))) ?_ ?_
    ·clear hA a;intro h42;intro a hA;exfalso;omega
    ·clear hA a;intro h42;refine uQ 3 ?_;refine br 0 (fun w hS=>(ar rfl aE)) ?_;intro a hA;refine K.oY hA (ao hA rfl rfl rfl) rfl rfl (fun w hS=>(aw (hA.ev rfl) (hA.ev rfl))) ?_ ?_
     ·clear hA a;intro h47;intro a hA;contradiction
     ·clear hA a;intro h47;refine uQ 12 ?_;intro a hA;refine wpQuiet_nil ?_;clear hS;intro w hS;refine rE 7 hA ?_;clear hA a;obtain⟨A2_p,rfl⟩:∃q,A2=some q:=(hS.p 1).rd.av (by omega);obtain⟨v,hv⟩:∃zz_,vs[j]?=some zz_:=⟨_,List.getElem?_eq_getElem (by omega)⟩;refine u1 0 (aj rfl rfl aE fQ (by omega) (by omega)) ?_;refine u1 0 (aq rfl aQ (gb (hS.p 1).rd (bu hv))) ?_;intro a hA;refine nC hA rfl rfl aE jQ rfl rfl rfl (by simp[Value.oneCell']) hS ?_;clear hA a hS;intro A74 w hS;intro a hA;refine dy hA rfl rfl rfl aE jQ rfl (hS.p 1) (hS.rd.src aE (by simp[Value.oneCell'])) (by omega) (by omega) ?_;clear hA a hS;intro A75 c75 w hc75 hS;refine uO 5 ?_;refine u1 3 (ah rfl rfl (by omega) (by omega)) ?_;intro a hA;replace hA:=hA.kp [3,4,5,6,7] rfl;rw[I2 hv (.inl (by omega)),List.append_cons]at ho;have el:out.length+1=(out++[v]).length:=by simp
      rw[el]at hA;exact⟨us.length+vs.length-(i+(j+1)),by omega,i,j+1,out++[v],A75,c75,hA,rb (iH (((hS.p 3).p 3).p 2) el (by simp)),by omega,by omega,by simp;omega,ho,rfl⟩
   ·intro h37;refine uO 16 ?_;refine aX ?_;rw[HH (by omega) (by omega),List.append_nil]at ho;subst ho;refine⟨_,_,_,rfl,?_,oS _ us vs (Nat.le_refl _) ha1 ha2,fz hS⟩;refine (iw _ us vs (Nat.le_refl _)).trans ((hp1.append hp2).trans ?_);rw[List.take_append_drop]
theorem ni:∀(k:Nat) (W:World) (A:Option Addr) (n c:Nat) (xs:List Int),n≤k→n≤1000000000000→Rd W 1 (.slice A n c) n (xs.map (Value.int .i64))→Calls Tryz.prog 296 #[.slice A n c] W fun e w'=>∃A' c' ys,e=.returned (.slice A' ys.length c')∧ys.Perm xs∧zM ys∧Sat W w' [cI 3 A' c' ys]
 | 0,W,A,n,c,xs,hk,hl,hX=>sv W A n c xs hX hl fun _ _ _ _ _ h _=>absurd h (by omega)
 | k+1,W,A,n,c,xs,hk,hl,hX=>sv W A n c xs hX hl fun W A m c xs h hX=>ni k W A m c xs (by omega) (by omega) hX
end Go.Proofs.YtkjabaihpkbfhaaGreat.Wk
namespace Go.Proofs.YtkjabaihpkbfhaaGreat.Wk
open Go Go.RowKit Go.Proofs.YtkjabaihpkbfhaaGreat Go.Proofs.YtkjabaihpkbfhaaGreat.K
def Loc.eZ (e:Nat)(l:Loc Int):As:=cI e l.a l.c l.xs
abbrev dz {α:Type}(ty t:Nat)(ls:List (Loc α)):As:=a8 t (.cells (ls.map Loc.v).toArray ty (0,0))
theorem iP {α:Type}{f:Loc α→As}{ls:List (Loc α)}{i:Nat}{l:Loc α}(h:ls[i]?=some l):(ls.map f)[i]?=some (f l):=by rw[List.getElem?_map,h];rfl
theorem gF {α:Type}{W w:World}{L:List As}{ty t i k:Nat}{ls:List (Loc α)}{l:Loc α}(s:Sat W w (dz ty t ls::L))(h:ls[i]?=some l)(hk:k=i:=by simp):w.cell? ⟨t,k,none⟩=some (.slice l.a l.xs.length l.c):=by
 subst hk;exact s.pq (by simp[h,Loc.v])
theorem kL {α:Type}{W w:World}{L:List As}{ty t:Nat}{ls:List (Loc α)}(s:Sat W w (dz ty t ls::L)):∀j u,(ls.map Loc.v)[j]?=some u→w.cell? ((⟨t,0,none⟩:Addr).add j)=some u:=fun j u h=>by
 rw[add_lit,Nat.zero_add];exact s.pq (by simpa using h)
theorem jH {α:Type}{W w:World}{L:List As}{f:Loc α→As}{i:Nat}{ls:List (Loc α)}{l l':Loc α}(h:ls[i]?=some l)(s:Sat W w (f l'::bt ((ls.map f).eraseIdx i)::L)):Sat W w (bt ((ls.set i l').map f)::L):=by
 rw[List.map_set];exact Sat.uZ (by rw[List.length_map];exact (List.getElem?_eq_some_iff.1 h).1) s
theorem ko {W w:World}{L:List As}{e i:Nat}{ls:List (Loc Int)}{l:Loc Int}(s:Sat W w (bt (ls.map (Loc.eZ e))::L))(h:ls[i]?=some l):j0 w l.a l.c l.xs:=(s.dN (iP h)).rd
theorem k8 {α:Type}{W w:World}{L:List As}(f:Loc α→As)(s:Sat W w L)(h0:∀L',Sat W w L'→Sat W w (f ⟨none,0,[]⟩::L')):∀n,Sat W w (bt ((List.replicate n (⟨none,0,[]⟩:Loc α)).map f)::L)
 | 0=>s.kZ
 | n+1=>(h0 _ (k8 f s h0 n)).oQ
def dE {α:Type}(ls:List (Loc α))(f:Nat→List α):Prop:=ls.length=16∧∀r l,ls[r]?=some l→l.xs=f r
theorem dE.get {α:Type}{ls:List (Loc α)}{f:Nat→List α}(h:dE ls f){r:Nat}(hr:r<16):∃A c,ls[r]?=some ⟨A,c,f r⟩:=by
 have hl:r<ls.length:=by rw[h.1];exact hr
 have:=h.2 r ls[r] (List.getElem?_eq_getElem hl);refine⟨ls[r].a,ls[r].c,?_⟩;rw[List.getElem?_eq_getElem hl,←this]
theorem dE.set {α:Type}{ls:List (Loc α)}{f g:Nat→List α}(h:dE ls f){r:Nat}{l:Loc α}(hl:l.xs=g r)(hg:∀k,k<16→k≠r→g k=f k):dE (ls.set r l) g:=by
 refine⟨by rw[List.length_set];exact h.1,fun k x hx=>?_⟩;have hk:k<16:=by have:=(List.getElem?_eq_some_iff.1 hx).1;rw[List.length_set,h.1]at this;exact this
 by_cases e:r=k
 ·
  subst e;rw[List.getElem?_set_self (by rw[h.1];exact hk)]at hx;cases hx;exact hl
 ·
  rw[List.getElem?_set_ne e]at hx;rw[h.2 k x hx,hg k hk (Ne.symm e)]
theorem dE.congr {α:Type}{ls:List (Loc α)}{f g:Nat→List α}(h:dE ls f)(hg:∀k,k<16→f k=g k):dE ls g:=⟨h.1,fun r l hl=>by
 have hr:r<16:=by have:=(List.getElem?_eq_some_iff.1 hl).1;rw[h.1]at this;exact this
 rw[h.2 r l hl,hg r hr]⟩
theorem kq {α:Type}:dE (List.replicate 16 (⟨none,0,[]⟩:Loc α)) (fun _=>[]):=⟨by simp,fun r l h=>by
 have:=List.mem_of_getElem? h;rw[List.eq_of_mem_replicate this]⟩
section
variable {α:Type} {P:Program} {ops:Array Oper} {a:Act} {n:Nat} {E:Env} {w W:World} {rest:List Oper} {Q:Exit→Act→World→Prop} {L:List As} {t ty:TypeId} {ps:String} {af:Array Edge} {x y:Operand} {ds:List Deferred}
theorem Lk {tb i t':Nat}{p:Addr}{v:Value}{ls:List (Loc α)}{l:Loc α}(l':Loc α)(hA:Ag a n E ds)(hx:fF E x=some (.pointer (some p)))(hp:p=⟨tb,i,none⟩)(hy:fF E y=some v)(hv:v=l'.v)(ht:flat P t=true)(h1:(P.info? t).map (·.size)=some 1)
 (s:Sat W w (dz t' tb ls::L)) (hi:ls[i]?=some l) (k:∀w',Sat W w' (dz t' tb (ls.set i l')::L)→wpList P ops Q rest a w'):wpList P ops Q (⟨none,.store t x y,ty,ps,af,none⟩::rest) a w:=by
 subst hp hv;refine mP hA hx hy ht h1 rfl s (u:=l.v) (by rw[lY];simp[hi]) fun w' h=>k w' ?_;rw[dz,List.map_set];simpa using h
theorem HD {q:Nat}{K:Act→World→Prop}{tb i t':Nat}{p:Addr}{v:Value}{ls:List (Loc α)}{l:Loc α}(l':Loc α)(hA:Ag a n E ds)(hi':ops[q]?=some ⟨none,.store t x y,ty,ps,af,none⟩)(hx:fF E x=some (.pointer (some p)))(hp:p=⟨tb,i,none⟩)(hy:fF E y=some v)(hv:v=l'.v)(ht:flat P t=true)(h1:(P.info? t).map (·.size)=some 1)
 (s:Sat W w (dz t' tb ls::L)) (hi:ls[i]?=some l) (k:∀w',Sat W w' (dz t' tb (ls.set i l')::L)→K a w'):wpOp P ops Q q K a w:=by
 subst hp hv;refine eW hA hi' hx hy ht h1 rfl s (u:=l.v) (by rw[lY];simp[hi]) fun w' h=>k w' ?_;rw[dz,List.map_set];simpa using h
theorem FA {tb t':Nat}{cs:List Value}{ls:List (Loc α)}(hA:Ag a n E ds)(hx:fF E x=some (.pointer (some ⟨tb,0,none⟩)))(hy:fF E y=some (.agg (ls.map Loc.v).toArray))(h1:(P.info? t).map (·.size)=some 16)(hl:ls.length=16)(hc:cs.length=16)
 (s:Sat W w (a8 tb (.cells cs.toArray t' (0,0))::L)) (k:∀w',Sat W w' (dz t' tb ls::L)→wpList P ops Q rest a w'):wpList P ops Q (⟨none,.store t x y,ty,ps,af,none⟩::rest) a w:=by
 refine Hs (vs:=ls.map Loc.v) hA hx hy (by rw[h1,List.length_map,hl]) (fun v hv=>?_) s (by rw[List.length_map];omega) fun w' h=>k w' ?_
 ·
  obtain⟨l,_,rfl⟩:=List.mem_map.1 hv;rfl
 ·
  have e:cs.take 0++ls.map Loc.v++cs.drop (0+(ls.map Loc.v).length)=ls.map Loc.v:=by
   rw[List.take_zero,List.nil_append,List.drop_of_length_le (by rw[List.length_map];omega),List.append_nil]
  rw[e]at h;exact h
end
def wW (T:List aL)(r k:Nat):List Int:=if k<r then bI (ax (gl T k)) else []
theorem Cu (T:List aL)(r:Nat):wW T (r+1) r=bI (ax (gl T r)):=if_pos (Nat.lt_succ_self r)
theorem Db {T:List aL}{r k:Nat}(h:k≠r):wW T (r+1) k=wW T r k:=by
 unfold wW
 by_cases h1:k<r
 ·
  rw[if_pos h1,if_pos (by omega)]
 ·
  rw[if_neg h1,if_neg (by omega)]
def pD (ps:List PL)(i:Nat):aL:=match ps[i]? with | some p=>p.d | none=>⟨[],[]⟩
theorem BJ {ps:List PL}{i:Nat}{p:PL}(h:ps[i]?=some p):pD ps i=p.d:=by unfold pD;rw[h]
theorem wM {l:List bo}{q:Nat}{x:bo}(h:l[q]?=some x):(bI l)[2 * q]?=some x.1∧(bI l)[2 * q+1]?=some (x.2+1):=by
 induction l generalizing q with
 | nil=>simp at h
 | cons y l ih =>
   cases q with
   | zero=>simp at h;subst h;exact⟨rfl,rfl⟩
   | succ q =>
     have:=ih (q:=q) (by simpa using h);rw[show 2 * (q+1)=2 * q+1+1 from by omega];exact this
theorem vX {g:List bo}{x:bo}(h:can (g++[x])):aT (g++[x])=if x.1=1 then (x.2,[]) else ((aT g).1,(aT g).2++[x]):=by
 cases g with
 | nil=>rw[List.nil_append,gf];split<;>rfl
 | cons y t =>
   have h1:=h.2.2.2.1 x (by simp);have h2:=h.1;have h3:=h.2.1;rw[List.cons_append,gf,gf,if_neg (by omega:¬x.1=1)]
   split<;>rfl
def j1 (f:Nat→Int)(r:Nat)(x:Int):List Value:=((List.range r).map f++(x::List.replicate (15-r) 0)).map (Value.int .i64)
theorem y3 {f:Nat→Int}{r:Nat}(hr:r<16):((List.range r).map f++List.replicate (16-r) 0).map (Value.int .i64)=j1 f r 0:=by
 unfold j1;rw[show 16-r=(15-r)+1 from by omega,List.replicate_succ]
theorem zT {f:Nat→Int}{r:Nat}(x y:Int):(j1 f r x).set r (.int .i64 y)=j1 f r y:=by
 unfold j1;rw[show Value.int .i64 y=Value.int .i64 y from rfl,←List.map_set]
 congr 1
 rw[List.set_append_right _ _ (by simp)];simp
theorem AK {f:Nat→Int}{r:Nat}(x:Int):(j1 f r x)[r]?=some (.int .i64 x):=by
 unfold j1;rw[List.getElem?_map,List.getElem?_append_right (by simp)];simp
theorem Al {f:Nat→Int}{r:Nat}(hr:r<16):j1 f r (f r)=((List.range (r+1)).map f++List.replicate (16-(r+1)) 0).map (Value.int .i64):=by
 unfold j1
 congr 1
 rw[List.range_succ,List.map_append,List.append_assoc,show 16-(r+1)=15-r from by omega]
 rfl
theorem qR {f:Nat→List bo}{B:Nat}(hb:∀r,r<16→(f r).length≤B):∀r,r≤16→((List.range r).flatMap (aS f)).length≤r * B
 | 0,_=>by simp
 | r + 1, h => by
   have h1:=qR hb r (by omega);have h2:=hb r (by omega);have h4:=lL (f r);rw[mJ,qq,List.length_append,List.length_map,Nat.add_mul];omega
theorem zB {l:List bo}(h:can l)(q:Nat):can (l.take q):=vg (m:=l.drop q) (by rw[List.take_append_drop];exact h)
theorem ju {α:Type}{W w:World}{L:List As}{ty t i k c:Nat}{A:Option Addr}{xs:List α}{ls:List (Loc α)}(s:Sat W w (dz ty t ls::L))(h:ls[i]?=some ⟨A,c,xs⟩)(hk:k=i:=by simp):w.cell? ⟨t,k,none⟩=some (.slice A xs.length c):=gF s h hk
theorem Cx (f:Nat→List bo){r q:Nat}{x:bo}(hx:(f r)[q]?=some x):cY ((f r).take (q+1))=cY ((f r).take q)+(x.2-x.1+1):=by rw[aD hx,qY];simp[cY]
theorem Ba {l:List Int}(h:∀x∈l,0≤x):0≤l.sum∧(l.sum=0→∀x∈l,x=0):=by
 induction l with
 | nil=>simp
 | cons a l ih =>
   obtain⟨h1,h2⟩:=ih fun x hx=>h x (by simp[hx])
   have ha:=h a (by simp);rw[List.sum_cons];refine⟨by omega,fun h0 x hx=>?_⟩;rcases List.mem_cons.1 hx with rfl | hx
   ·
    omega
   ·
    exact h2 (by omega) x hx
theorem rV (p:aL):eE p=true↔∀r,r<16→aN p r=[]:=by
 unfold eE Bf;rw[decide_eq_true_eq]
 have hn:∀x∈(List.range 16).map fun r=>cY (aN p r),0≤x:=fun x hx=>by
  obtain⟨r,_,rfl⟩:=List.mem_map.1 hx;exact (iM (bx p r)).1
 constructor
 ·
  intro h r hr;exact (iM (bx p r)).2.1 ((Ba hn).2 h _ (List.mem_map.2 ⟨r,List.mem_range.2 hr,rfl⟩))
 ·
  intro h;have:(List.range 16).map (fun r=>cY (aN p r))=(List.range 16).map fun _=>0:=List.map_congr_left fun r hr=>by rw[h r (List.mem_range.1 hr)];rfl
  rw[this];decide
theorem xJ (a b:aL):eE (j4 a b)=ck a b:=by
 rw[Bool.eq_iff_iff,rV,yI,u3];constructor
 ·
  intro h r hr;rw[←km a b hr];exact h r hr
 ·
  intro h r hr;rw[km a b hr];exact h r hr
theorem ve (rule:Int):cb rule false false=false:=by simp[cb]
theorem Aw:cb 2=fun a b=>a && !b:=by funext a b;simp[cb]
end Go.Proofs.YtkjabaihpkbfhaaGreat.Wk
namespace Go.Proofs.YtkjabaihpkbfhaaGreat.Wk
open Go Go.RowKit Go.Proofs.YtkjabaihpkbfhaaGreat Go.Proofs.YtkjabaihpkbfhaaGreat.K Go.Proofs.YtkjabaihpkbfhaaGreat.T
theorem yC (W:World)(A:Option Addr)(n c:Nat)(B:Option Addr)(m d:Nat)(raw:List bo)(hX:Rd W 1 (.slice A n c) n ((raw.map Prod.fst).map (Value.int .i64)))(hY:Rd W 1 (.slice B m d) m ((raw.map Prod.snd).map (Value.int .i64)))(hn:n=raw.length)(hm:m=raw.length)(hl:raw.length≤100000000000):Calls Tryz.prog 289 #[.slice A n c,.slice B m d] W fun e w'=>∃A' c',e=.returned (.slice A' (bI (ax raw)).length c')∧Sat W w' [cI 3 A' c' (bI (ax raw))]:=by
 refine enter Tryz.func289 rfl rfl rfl (.cons (i:=0) rfl (.cons (i:=1) rfl .nil)) ?_;have hS:=Sat.start W;intro a hA;subst hn hm;refine rC 18 hA ?_;clear hA a;intro a hA;refine wp_loop_ghost (fun (mm:Nat) a w=>∃(i:Nat) (ins outs:List Int) (Ai Ao:Option Addr) (ci co:Nat),Ag a 98 [(0,.slice A (raw).length c),(1,.slice B (raw).length d),(5,.slice Ai (ins).length ci),(6,.slice Ao (outs).length co),(7,.int .i64 ((i:Nat):Int))]∧Sat W w ([cI 3 Ai ci ins,cI 3 Ao co outs])∧(i≤raw.length)∧(ins=((fo (raw.take i)).map Prod.fst))∧(outs=((fo (raw.take i)).map fun r=>r.2+1))∧mm=raw.length-i) raw.length ?_ ?_
 ·replace hA:=hA.kp [0,1,5,6,7] rfl;exact⟨0,[],[],none,none,0,0,hA,((hS.aY 3 1).aY 3 1),(by omega),(by rfl),(by rfl),by omega⟩
 intro m a w hI;clear hS hA;obtain⟨i,ins,outs,Ai,Ao,ci,co,hA,hS,hi,h1,h2,rfl⟩:=hI;refine rC 5 hA ?_;clear hA a;refine u1 0 (ar rfl aE) ?_;refine aR 0 0 (aw rfl rfl) ?_ ?_
 ·intro h17;refine uO 8 ?_;intro a hA;refine cF (fun w'=>Sat _ w' _) (by kernel_rfl) (by kernel_rfl) hS.drew ?_;refine rQ 2 hA ?_;clear hA a;obtain⟨A_p,rfl⟩:∃q,A=some q:=(hX.sat hS).av (by omega);obtain⟨r,hr⟩:∃zz_,raw[i]?=some zz_:=⟨_,List.getElem?_eq_getElem (by omega)⟩;have hr1:(raw.map Prod.fst)[i]?=some r.1:=by rw[List.getElem?_map,hr];rfl
  have hr2:(raw.map Prod.snd)[i]?=some r.2:=by rw[List.getElem?_map,hr];rfl
  have hcl:=iU (raw.take i);intro a hA;rw[List.length_take]at hcl;have hl1:ins.length≤100000000000:=by rw[h1,List.length_map];omega
  have hl2:outs.length≤100000000000:=by rw[h2,List.length_map];omega
  refine Q1 0 hA (fun w hS=>(aj (hA.ev rfl) (hA.ev rfl) aE fQ (by omega) (by omega))) ?_;clear hA a;refine br 0 (fun w hS=>(aq rfl aQ (gb (hX.sat hS) (bu hr1)))) ?_;refine br 2 (fun w hS=>(tJ rfl rfl)) ?_;obtain⟨B_p,rfl⟩:∃q,B=some q:=(hY.sat hS).av (by omega);refine br 0 (fun w hS=>(aj rfl rfl aE fQ (by omega) (by omega))) ?_;refine br 0 (fun w hS=>(aq rfl aQ (gb (hY.sat hS) (bu hr2)))) ?_;refine br 2 (fun w hS=>(x4 rfl rfl)) ?_;intro a hA;refine wpQuiet_nil ?_;clear hS;intro w hS;refine rE 5 hA ?_;clear hA a;refine aR 0 0 (du rfl rfl) ?_ ?_
  ·intro h32;refine uO 7 ?_;intro a hA;refine nC hA rfl rfl aE jQ rfl rfl rfl (by simp[Value.oneCell']) hS ?_;clear hA a hS;intro A35 w hS;intro a hA;refine dy hA rfl rfl rfl aE jQ rfl (hS.p 1) (hS.rd.src aE (by simp[Value.oneCell'])) (by omega) (by omega) ?_;clear hA a hS;intro A36 c36 w hc36 hS;refine uO 6 ?_;refine u1 0 (ah rfl rfl (by omega) (by omega)) ?_;intro a hA;refine nC hA rfl rfl aE jQ rfl rfl rfl (by simp[Value.oneCell']) hS ?_;clear hA a hS;intro A40 w hS;intro a hA;refine dy hA rfl rfl rfl aE jQ rfl (hS.p 3) (hS.rd.src aE (by simp[Value.oneCell'])) (by omega) (by omega) ?_;clear hA a hS;intro A41 c41 w hc41 hS;refine uO 6 ?_;refine u1 2 (ah rfl rfl (by omega) (by omega)) ?_;intro a hA;replace hA:=hA.kp [0,1,5,6,7] rfl;have hc:gS r=some (max r.1 1,min r.2 1000000000):=by unfold gS;rw[dI,if_pos h32]
   have ec:=nw (a:=raw.take i) hc;rw[←aD hr]at ec;have e1:ins.length+1=(ins++[max r.1 1]).length:=by simp
   have e2:outs.length+1=(outs++[min r.2 1000000000+1]).length:=by simp
   rw[e1,e2]at hA;exact⟨raw.length-(i+1),by omega,i+1,ins++[max r.1 1],outs++[min r.2 1000000000+1],_,_,_,_,hA,oO (iH ((iH ((hS.p 2).p 1) e2 (by simp)).p 1) e1 (by simp)),by omega,by rw[ec,h1];simp,by rw[ec,h2];simp,rfl⟩
  ·intro h32;refine uO 8 ?_;refine u1 2 (ah rfl rfl (by omega) (by omega)) ?_;intro a hA;replace hA:=hA.kp [0,1,5,6,7] rfl;have hc:gS r=none:=by unfold gS;rw[dI,if_neg h32]
   have ec:=nF (a:=raw.take i) hc;rw[←aD hr]at ec;exact⟨raw.length-(i+1),by omega,i+1,ins,outs,_,_,_,_,hA,hS,by omega,by rw[ec,h1],by rw[ec,h2],rfl⟩
 ·intro h17;obtain rfl:i=raw.length:=by omega
  intro a hA;rw[List.take_length]at h1 h2;have hcl:=iU raw;have hl1:ins.length≤100000000000:=by rw[h1,List.length_map];omega
  have hl2:outs.length≤100000000000:=by rw[h2,List.length_map];omega
  refine rO 11 hA ?_;clear hA a;refine uF B7 rfl (ni _ _ _ _ _ ins (Nat.le_refl _) (by omega) hS.rd) ?_;rintro e w ⟨A1,c1,us,rfl,hp1,ha1,hT⟩;replace hS:=hS.aB hT;clear hT;refine⟨_,rfl,?_⟩;refine uO 6 ?_;refine uF B7 rfl (ni _ _ _ _ _ outs (Nat.le_refl _) (by omega) (hS.p 2).rd) ?_;rintro e w ⟨A2,c2,vs,rfl,hp2,ha2,hT⟩;replace hS:=hS.aB hT;clear hT;refine⟨_,rfl,?_⟩;have hlu:=hp1.length_eq;have hlv:=hp2.length_eq;intro a hA;rw[h1]at hp1;rw[h2]at hp2;have hw0:=EM ha1 ha2 hp1 hp2;refine rO 3 hA ?_;clear hA a;intro a hA;replace hA:=hA.kp [5,6] rfl;refine rC 18 hA ?_;clear hA a;intro a hA
  refine wp_loop_ghost (fun (mm:Nat) a w=>∃(i j d:Nat) (out:List Int) (Ao:Option Addr) (co:Nat),Ag a 98 [(5,.slice A1 (us).length c1),(6,.slice A2 (vs).length c2),(10,.slice Ao (out).length co),(11,.int .i64 ((d:Nat):Int)),(12,.int .i64 ((j:Nat):Int)),(13,.int .i64 ((i:Nat):Int))]∧Sat W w ([cI 3 Ao co out,cI 3 A2 c2 vs,cI 3 A1 c1 us])∧(i≤us.length)∧(j≤vs.length)∧(out.length≤i+j)∧(H2 us vs i j d)∧(out++fN (us.drop i) (vs.drop j) d=bI (ax raw))∧mm=us.length+vs.length-(i+j)) (us.length+vs.length) ?_ ?_
  ·replace hA:=hA.kp [5,6,10,11,12,13] rfl;exact⟨0,0,0,[],none,0,hA,rb (hS.aY 3 1),(by omega),(by omega),(by simp),(by exact hw0),(by exact Dp ha1 ha2 hp1 hp2),by omega⟩
  intro m a w hI;clear hS hA;obtain⟨i,j,d,out,Ao,co,hA,hS,hi,hj,hol,hw,ho,rfl⟩:=hI;refine rC 5 hA ?_;clear hA a;refine u1 0 (ar rfl aE) ?_;refine aR 0 0 (aw rfl rfl) ?_ ?_
  ·intro h49;have hbal:=hw.Lx;obtain⟨b,hv⟩:∃x,vs[j]?=some x:=⟨_,List.getElem?_eq_getElem (by omega)⟩;refine uO 13 ?_;intro a hA;refine cF (fun w'=>Sat _ w' _) (by kernel_rfl) (by kernel_rfl) hS.drew ?_;refine rQ 2 hA ?_;clear hA a;refine br 0 (fun w hS=>(ar rfl aE)) ?_;intro a hA;refine K.se hA rfl rfl rfl (fun w hS=>(aw (hA.ev rfl) (hA.ev rfl))) ?_ ?_
   ·clear hA a;intro h59;refine uQ 3 ?_;obtain⟨A1_p,rfl⟩:∃q,A1=some q:=(hS.p 2).rd.av (by omega);obtain⟨x1,hu⟩:∃zz_,us[i]?=some zz_:=⟨_,List.getElem?_eq_getElem (by omega)⟩;refine br 0 (fun w hS=>(aj rfl rfl aE fQ (by omega) (by omega))) ?_;refine br 2 (fun w hS=>(aq rfl aQ (gb (hS.p 2).rd (bu hu)))) ?_;obtain⟨A2_p,rfl⟩:∃q,A2=some q:=(hS.p 1).rd.av (by omega);refine br 0 (fun w hS=>(aj rfl rfl aE fQ (by omega) (by omega))) ?_;refine br 0 (fun w hS=>(aq rfl aQ (gb (hS.p 1).rd (bu hv)))) ?_;intro a hA;refine K.oY hA (ao hA rfl rfl rfl) rfl rfl (fun w hS=>(du (hA.ev rfl) (hA.ev rfl))) ?_ ?_
    ·clear hA a;intro h69;refine uQ 1 ?_;intro a hA;refine wpQuiet_nil ?_;clear hS;intro w hS;refine rE 6 hA ?_;clear hA a;refine aR 0 0 (bn rfl rfl) ?_ ?_
     ·intro h72;refine uO 7 ?_;refine u1 0 (aj rfl rfl aE fQ (by omega) (by omega)) ?_;refine u1 0 (aq rfl aQ (gb (hS.p 2).rd (bu hu))) ?_;intro a hA;refine nC hA rfl rfl aE jQ rfl rfl rfl (by simp[Value.oneCell']) hS ?_;clear hA a hS;intro A78 w hS;intro a hA;refine dy hA rfl rfl rfl aE jQ rfl (hS.p 1) (hS.rd.src aE (by simp[Value.oneCell'])) (by omega) (by omega) ?_;clear hA a hS;intro A79 c79 w hc79 hS;refine uO 6 ?_;refine u1 5 (ah rfl rfl (by omega) (by omega)) ?_;refine u1 3 (ah rfl rfl (by omega) (by omega)) ?_;intro a hA;replace hA:=hA.kp [5,6,10,11,12,13] rfl;obtain⟨hw2,es⟩:=GL hw hu hv h69;rw[es,if_pos (by omega),←List.append_assoc]at ho;have el:out.length+1=(out++[x1]).length:=by simp
      rw[el]at hA;exact⟨us.length+vs.length-(i+1+(j)),by omega,i+1,j,d+1,out++[x1],_,_,hA,rb (iH (((hS.p 3).p 3).p 2) el (by simp)),by omega,by omega,by simp;omega,hw2,ho,rfl⟩
     ·intro h72;refine uO 8 ?_;refine u1 5 (ah rfl rfl (by omega) (by omega)) ?_;refine u1 3 (ah rfl rfl (by omega) (by omega)) ?_;intro a hA;replace hA:=hA.kp [5,6,10,11,12,13] rfl;obtain⟨hw2,es⟩:=GL hw hu hv h69;rw[es,if_neg (by omega),List.nil_append]at ho;exact⟨us.length+vs.length-(i+1+(j)),by omega,i+1,j,d+1,out,_,_,hA,hS,by omega,by omega,by omega,hw2,ho,rfl⟩
    ·clear hA a;intro h69;refine uQ 1 ?_;intro a hA;refine wpQuiet_nil ?_;clear hS;intro w hS;refine rE 5 hA ?_;clear hA a;refine u1 7 (aZ rfl rfl (by omega) (by omega)) ?_;refine aR 0 0 (bn rfl rfl) ?_ ?_
     ·intro h87;refine uO 7 ?_;refine u1 0 (aj rfl rfl aE fQ (by omega) (by omega)) ?_;refine u1 0 (aq rfl aQ (gb (hS.p 1).rd (bu hv))) ?_;intro a hA;refine nC hA rfl rfl aE jQ rfl rfl rfl (by simp[Value.oneCell']) hS ?_;clear hA a hS;intro A93 w hS;intro a hA;refine dy hA rfl rfl rfl aE jQ rfl (hS.p 1) (hS.rd.src aE (by simp[Value.oneCell'])) (by omega) (by omega) ?_;clear hA a hS;intro A94 c94 w hc94 hS;refine uO 5 ?_;refine u1 3 (ah rfl rfl (by omega) (by omega)) ?_;intro a hA;replace hA:=hA.kp [5,6,10,11,12,13] rfl;obtain⟨fz,hw2,es⟩:=xg hw hv (.inr ⟨x1,hu,h69⟩);rw[es,if_pos (by omega),←List.append_assoc]at ho;rw[show (d:Int)-1=((d-1:Nat):Int) from by omega]at hA;have el:out.length+1=(out++[b]).length:=by simp
      rw[el]at hA;exact⟨us.length+vs.length-(i+(j+1)),by omega,i,j+1,d-1,out++[b],_,_,hA,rb (iH (((hS.p 3).p 3).p 2) el (by simp)),by omega,by omega,by simp;omega,hw2,ho,rfl⟩
     ·intro h87;refine uO 7 ?_;refine u1 3 (ah rfl rfl (by omega) (by omega)) ?_;intro a hA;replace hA:=hA.kp [5,6,10,11,12,13] rfl;obtain⟨fz,hw2,es⟩:=xg hw hv (.inr ⟨x1,hu,h69⟩);rw[es,if_neg (by omega),List.nil_append]at ho;rw[show (d:Int)-1=((d-1:Nat):Int) from by omega]at hA;exact⟨us.length+vs.length-(i+(j+1)),by omega,i,j+1,d-1,out,_,_,hA,hS,by omega,by omega,by omega,hw2,ho,rfl⟩
   ·clear hA a;intro h59;intro a hA;contradiction
  ·intro h49;refine uO 3 ?_;refine u1 0 (ar rfl aE) ?_;refine aR 0 0 (aw rfl rfl) ?_ ?_
   ·intro h54;have hbal:=hw.Lx;obtain⟨b,hv⟩:∃x,vs[j]?=some x:=⟨_,List.getElem?_eq_getElem (by omega)⟩;refine uO 8 ?_;intro a hA;refine cF (fun w'=>Sat _ w' _) (by kernel_rfl) (by kernel_rfl) hS.drew ?_;refine rQ 2 hA ?_;clear hA a;refine br 0 (fun w hS=>(ar rfl aE)) ?_;intro a hA;refine K.se hA rfl rfl rfl (fun w hS=>(aw (hA.ev rfl) (hA.ev rfl))) ?_ ?_
    ·clear hA a;intro h59;intro a hA;contradiction
    ·clear hA a;intro h59;refine uQ 11 ?_;intro a hA;refine wpQuiet_nil ?_;clear hS;intro w hS;refine rE 5 hA ?_;clear hA a;refine u1 7 (aZ rfl rfl (by omega) (by omega)) ?_;refine aR 0 0 (bn rfl rfl) ?_ ?_
     ·intro h87;refine uO 7 ?_;obtain⟨A2_p,rfl⟩:∃q,A2=some q:=(hS.p 1).rd.av (by omega);refine u1 0 (aj rfl rfl aE fQ (by omega) (by omega)) ?_;refine u1 0 (aq rfl aQ (gb (hS.p 1).rd (bu hv))) ?_;intro a hA;refine nC hA rfl rfl aE jQ rfl rfl rfl (by simp[Value.oneCell']) hS ?_;clear hA a hS;intro A93 w hS;intro a hA;refine dy hA rfl rfl rfl aE jQ rfl (hS.p 1) (hS.rd.src aE (by simp[Value.oneCell'])) (by omega) (by omega) ?_;clear hA a hS;intro A94 c94 w hc94 hS;refine uO 5 ?_;refine u1 3 (ah rfl rfl (by omega) (by omega)) ?_;intro a hA;replace hA:=hA.kp [5,6,10,11,12,13] rfl;obtain⟨fz,hw2,es⟩:=xg hw hv (.inl (by omega));rw[es,if_pos (by omega),←List.append_assoc]at ho;rw[show (d:Int)-1=((d-1:Nat):Int) from by omega]at hA;have el:out.length+1=(out++[b]).length:=by simp
      rw[el]at hA;exact⟨us.length+vs.length-(i+(j+1)),by omega,i,j+1,d-1,out++[b],_,_,hA,rb (iH (((hS.p 3).p 3).p 2) el (by simp)),by omega,by omega,by simp;omega,hw2,ho,rfl⟩
     ·intro h87;refine uO 7 ?_;refine u1 3 (ah rfl rfl (by omega) (by omega)) ?_;intro a hA;replace hA:=hA.kp [5,6,10,11,12,13] rfl;obtain⟨fz,hw2,es⟩:=xg hw hv (.inl (by omega));rw[es,if_neg (by omega),List.nil_append]at ho;rw[show (d:Int)-1=((d-1:Nat):Int) from by omega]at hA;exact⟨us.length+vs.length-(i+(j+1)),by omega,i,j+1,d-1,out,_,_,hA,hS,by omega,by omega,by omega,hw2,ho,rfl⟩
   ·intro h54;refine uO 15 ?_;intro a hA;replace hA:=hA.kp [4] rfl;refine rC 1 hA ?_;clear hA a;refine aX ?_;have hbal:=hw.Lx;rw[List.drop_of_length_le (by omega),List.drop_of_length_le (by omega:vs.length≤j),rl,List.append_nil]at ho;rw[←ho];exact⟨_,_,rfl,fz hS⟩
theorem AT (W:World)(A:Option Addr)(c:Nat)(ps:List PL)(hR:AS W A c ps)(hE:∀p∈ps,p.ok W)(hn:ps.length≤1000000000000)(ht:cN (ps.map PL.d)≤100000000000):Calls Tryz.prog 279 #[.slice A (ps).length c] W fun e w'=>∃ls:List (Loc Int),e=.returned (.agg (ls.map Loc.v).toArray)∧dE ls (fun r=>bI (ax (gl (ps.map PL.d) r)))∧Sat W w' [bt (ls.map (Loc.eZ 3))]:=by
 refine enter Tryz.func279 rfl rfl rfl (.cons (i:=0) rfl .nil) ?_;have hS:=Sat.start W;refine uC 2 ?_;refine uN wR hS ?_;clear hS;intro b2 w hS;refine uO 4 ?_;refine uN Gv hS ?_;clear hS;intro b3 w hS;refine uN Gv hS ?_;clear hS;intro b4 w hS;refine uO 9 ?_;intro a hA;refine wp_loop_ghost (fun (mm:Nat) a w=>∃(i:Nat) (l1 l2:List (Loc Int)),Ag a 116 [(0,.slice A (ps).length c),(2,.pointer (some ⟨b2,0,none⟩)),(3,.pointer (some ⟨b3,0,none⟩)),(4,.pointer (some ⟨b4,0,none⟩)),(5,.int .i64 ((i:Nat):Int))]∧Sat W w ([dz 375 b3 l1,bt (l1.map (Loc.eZ 3)),dz 375 b4 l2,bt (l2.map (Loc.eZ 3)),dz 377 b2 (List.replicate 16 (⟨none,0,[]⟩:Loc Int))])∧(i≤ps.length)∧(dE l1 (fun r=>(gl ((ps.map PL.d).take i) r).map Prod.fst))∧(dE l2 (fun r=>(gl ((ps.map PL.d).take i) r).map Prod.snd))∧mm=ps.length-i) ps.length ?_ ?_
 ·replace hA:=hA.kp [0,2,3,4,5] rfl;have hS0:=k8 (Loc.eZ 3) (k8 (Loc.eZ 3) hS (fun L' s=>s.aY 3 1) 16) (fun L' s=>s.aY 3 1) 16;have hS1:Sat W w [dz 375 b3 (List.replicate 16 (⟨none,0,[]⟩:Loc Int)),bt ((List.replicate 16 (⟨none,0,[]⟩:Loc Int)).map (Loc.eZ 3)),dz 375 b4 (List.replicate 16 (⟨none,0,[]⟩:Loc Int)),bt ((List.replicate 16 (⟨none,0,[]⟩:Loc Int)).map (Loc.eZ 3)),dz 377 b2 (List.replicate 16 (⟨none,0,[]⟩:Loc Int))]:=(((((hS0.p 4).p 2).p 3).p 3).p 4);exact⟨0,_,_,hA,hS1,(by omega),(by exact kq),(by exact kq),by omega⟩
 intro m a w hI;clear hS hA;obtain⟨i,l1,l2,hA,hS,hi,hT1,hT2,rfl⟩:=hI;refine rC 5 hA ?_;clear hA a;refine u1 0 (ar rfl fK) ?_;refine aR 0 0 (aw rfl rfl) ?_ ?_
 ·intro h14;refine uO 14 ?_;intro a hA;refine wp_loop_ghost (fun (mm:Nat) a w=>∃(j:Nat) (l1 l2:List (Loc Int)),Ag a 116 [(0,.slice A (ps).length c),(2,.pointer (some ⟨b2,0,none⟩)),(3,.pointer (some ⟨b3,0,none⟩)),(4,.pointer (some ⟨b4,0,none⟩)),(5,.int .i64 ((i:Nat):Int)),(6,.int .i64 ((j:Nat):Int))]∧Sat W w ([dz 375 b3 l1,bt (l1.map (Loc.eZ 3)),dz 375 b4 l2,bt (l2.map (Loc.eZ 3)),dz 377 b2 (List.replicate 16 (⟨none,0,[]⟩:Loc Int))])∧(j≤16)∧(dE l1 (fun r=>(dp ((ps.map PL.d).take i) (pD ps i) j 0 r).map Prod.fst))∧(dE l2 (fun r=>(dp ((ps.map PL.d).take i) (pD ps i) j 0 r).map Prod.snd))∧(j≤(pD ps i).vec.length)∧mm=16-j) 16 ?_ ?_
  ·replace hA:=hA.kp [0,2,3,4,5,6] rfl;exact⟨0,_,_,hA,hS,(by omega),(by exact hT1.congr fun r hr=>by rw[rP]),(by exact hT2.congr fun r hr=>by rw[rP]),(by omega),by omega⟩
  intro m a w hI;clear hS hA;obtain⟨j,l1,l2,hA,hS,hj,hT1,hT2,hj2,rfl⟩:=hI;refine rC 6 hA ?_;clear hA a;obtain⟨A_p,rfl⟩:∃q,A=some q:=(hR.sat hS).av (by omega);obtain⟨p,hp⟩:∃zz_,ps[i]?=some zz_:=⟨_,List.getElem?_eq_getElem (by omega)⟩;have hpo:=hE p (List.mem_of_getElem? hp);have hsp:=wP (kK hp);obtain⟨va,vc,ca,cc,d⟩:=p;have hpv:j0 W va vc d.vec:=hpo.vec;have hpc:gK W ca cc d.ab:=hpo.ab;intro a hA;dsimp only at hsp;rw[BJ hp]at hT1 hT2 hj2;dsimp only at hT1 hT2 hj2;refine o1 0 hA (aj (hA.ev rfl) (hA.ev rfl) fK aC (by omega) (by omega)) ?_;clear hA a;refine u1 0 (aA rfl cw) ?_;refine u1 0 (aq rfl cW (bJ (hR.sat hS) (lj hp 0 _ rfl))) ?_;refine u1 0 (ar rfl aE) ?_;refine aR 0 0 (aw rfl rfl) ?_ ?_
  ·intro h24;intro a hA;dsimp only at h24;refine rO 2 hA ?_;clear hA a;refine aR 0 0 (aw rfl rfl) ?_ ?_
   ·intro h27;obtain⟨lA,lc,hl1⟩:=hT1.get (show j<16 by omega);obtain⟨mA,mc,hl2⟩:=hT2.get (show j<16 by omega);have hlen:=nO ((ps.map PL.d).take i) d j 0 j;have hq1:((dp ((ps.map PL.d).take i) d j 0 j).map Prod.fst).length≤100000000000:=by rw[List.length_map];omega
    have hq2:((dp ((ps.map PL.d).take i) d j 0 j).map Prod.snd).length≤100000000000:=by rw[List.length_map];omega
    intro a hA;replace hS:Sat W w (cI 3 lA lc ((dp ((ps.map PL.d).take i) d j 0 j).map Prod.fst)::_):=(hS.p 1).dN (iP hl1);refine rO 12 hA ?_;clear hA a;refine u1 0 (aW rfl rfl fA fS (by omega) (by omega)) ?_;refine u1 0 (aq rfl cW (gF (hS.p 2) hl1)) ?_;intro a hA;refine nC hA rfl rfl aE jQ rfl rfl rfl (by simp[Value.oneCell']) hS ?_;clear hA a hS;intro A35 w hS;intro a hA;refine dy hA rfl rfl rfl aE jQ rfl (hS.p 1) (hS.rd.src aE (by simp[Value.oneCell'])) (by omega) (by omega) ?_;clear hA a hS;intro A36 c36 w hc36 hS;refine u1 0 (aW rfl rfl fA fS (by omega) (by omega)) ?_;intro a hA;refine Lk (i:=j) ⟨A36,c36,(dp ((ps.map PL.d).take i) d j 0 j).map Prod.fst++[1]⟩ hA rfl (by simp) rfl (by simp[Loc.v]) cW fS (hS.p 3) hl1 ?_;clear hS;intro w hS
    replace hS:=jH (f:=Loc.eZ 3) hl1 (l':=⟨A36,c36,(dp ((ps.map PL.d).take i) d j 0 j).map Prod.fst++[1]⟩) (iH ((hS.p 3).p 2) (by simp) (by simp));replace hS:Sat W w (cI 3 mA mc ((dp ((ps.map PL.d).take i) d j 0 j).map Prod.snd)::_):=(hS.p 4).dN (iP hl2);refine rO 2 hA ?_;clear hA a;intro a hA;refine bh [13,15] hS (by kernel_rfl) ?_;replace hS:=hS.drew;refine rX [0,1] hA ?_;clear hA a;refine bz 2 [] rfl (fun w=>(aW rfl rfl fA fS (by omega) (by omega))) ?_;refine cT 3 [4,5] rfl (by exact⟨[],hS⟩) (fun w hT=>have hS:=hT.sat;(aq rfl cW (gF (hS.p 5) hl2))) ?_;refine bz 6 [] rfl (fun w=>(aj rfl rfl fK aC (by omega) (by omega))) ?_;refine bz 7 [] rfl (fun w=>(aA rfl cw)) ?_;refine cT 8 [9] rfl (by exact⟨[],hS⟩) (fun w hT=>have hS:=hT.sat;(aq rfl cW (bJ (hR.sat hS) (lj hp 0 _ rfl)))) ?_
    obtain⟨va_p,rfl⟩:∃q,va=some q:=(hpv.sat hS).av (by omega);obtain⟨v,hv⟩:∃zz_,d.vec[j]?=some zz_:=⟨_,List.getElem?_eq_getElem (by omega)⟩;refine bz 10 [] rfl (fun w=>(aj rfl rfl aE fQ (by omega) (by omega))) ?_;refine cT 11 [] rfl (by exact⟨[],hS⟩) (fun w hT=>have hS:=hT.sat;(aq rfl aQ (gb (hpv.sat hS) (bu hv)))) ?_;intro a hA;refine aG 12 (by kernel_rfl) ?_;refine eL hA rfl rfl rfl aE jQ rfl rfl rfl (by simp[Value.oneCell']) hS ?_;clear hA a hS;intro A50 w hS;intro a hA;refine⟨.inr fun _=>(by exact⟨[_],hS⟩),?_⟩;refine aG 13 (by kernel_rfl) ?_;refine eA hA rfl rfl rfl rfl aE jQ rfl (hS.p 1) (hS.rd.src aE (by simp[Value.oneCell'])) (by omega) (by omega) ?_;clear hA a hS;intro A51 c51 w hc51 hS;intro a hA;refine⟨.inl rfl,?_⟩
    refine P1 14 [] hA rfl (fun w=>(aW (hA.ev rfl) (hA.ev rfl) fA fS (by omega) (by omega))) ?_;clear hA a;intro a hA;refine aG 15 (by kernel_rfl) ?_;refine HD (i:=j) ⟨A51,c51,(dp ((ps.map PL.d).take i) d j 0 j).map Prod.snd++[v]⟩ hA rfl rfl (by simp) rfl (by simp[Loc.v]) cW fS (hS.p 6) hl2 ?_;clear hS;intro w hS;refine⟨.inl rfl,?_⟩;refine ak (by kernel_rfl) ?_ _;refine rE 4 hA ?_;clear hA a;refine u1 2 (ah rfl rfl (by omega) (by omega)) ?_;intro a hA;replace hA:=hA.kp [0,2,3,4,5,6] rfl;have hS2:=jH (f:=Loc.eZ 3) hl2 (l':=⟨A51,c51,(dp ((ps.map PL.d).take i) d j 0 j).map Prod.snd++[v]⟩) (iH ((hS.p 3).p 2) (by simp) (by simp));have e1:(dp ((ps.map PL.d).take i) d (j+1) 0 j).map Prod.fst=(dp ((ps.map PL.d).take i) d j 0 j).map Prod.fst++[1]:=by rw[(mi hv).2];simp
    have e2:(dp ((ps.map PL.d).take i) d (j+1) 0 j).map Prod.snd=(dp ((ps.map PL.d).take i) d j 0 j).map Prod.snd++[v]:=by rw[(mi hv).2];simp
    refine⟨16-(j+1),by omega,j+1,_,_,hA,(((((hS2.p 6).p 1).p 2).p 4).p 5).cZ [_,_,_,_,_],by omega,?_,?_,by rw[BJ hp];show j+1≤d.vec.length;omega,rfl⟩
    ·rw[BJ hp];exact hT1.set e1.symm fun k hk hne=>by rw[(mi hv).1 k hne]
    ·rw[BJ hp];exact hT2.set e2.symm fun k hk hne=>by rw[(mi hv).1 k hne]
   ·intro h27;obtain rfl:j=min d.vec.length 16:=by omega
    refine uO 15 ?_;intro a hA;refine wp_loop_ghost (fun (mm:Nat) a w=>∃(k:Nat) (l1 l2:List (Loc Int)),Ag a 116 [(0,.slice (some A_p) (ps).length c),(2,.pointer (some ⟨b2,0,none⟩)),(3,.pointer (some ⟨b3,0,none⟩)),(4,.pointer (some ⟨b4,0,none⟩)),(5,.int .i64 ((i:Nat):Int)),(7,.int .i64 ((k:Nat):Int))]∧Sat W w ([dz 375 b3 l1,bt (l1.map (Loc.eZ 3)),dz 375 b4 l2,bt (l2.map (Loc.eZ 3)),dz 377 b2 (List.replicate 16 (⟨none,0,[]⟩:Loc Int))])∧(k≤d.ab.length)∧(dE l1 (fun r=>(dp ((ps.map PL.d).take i) d (min d.vec.length 16) k r).map Prod.fst))∧(dE l2 (fun r=>(dp ((ps.map PL.d).take i) d (min d.vec.length 16) k r).map Prod.snd))∧mm=d.ab.length-k) d.ab.length ?_ ?_
    ·replace hA:=hA.kp [0,2,3,4,5,7] rfl;exact⟨0,_,_,hA,hS,(by omega),(by exact hT1),(by exact hT2),by omega⟩
    intro m a w hI;clear hS hA;obtain⟨k,l1,l2,hA,hS,hk,hT1,hT2,rfl⟩:=hI;refine rC 6 hA ?_;clear hA a;refine u1 0 (aj rfl rfl fK aC (by omega) (by omega)) ?_;refine u1 0 (aA rfl bZ) ?_;refine u1 0 (aq rfl eM (bJ (hR.sat hS) (lj hp 1 _ rfl))) ?_;refine u1 0 (ar rfl dm) ?_;refine aR 0 0 (aw rfl rfl) ?_ ?_
    ·intro h60;intro a hA;dsimp only at h60;refine rO 11 hA ?_;clear hA a;refine u1 0 (aj rfl rfl fK aC (by omega) (by omega)) ?_;refine u1 0 (aA rfl bZ) ?_;refine u1 1 (aq rfl eM (bJ (hR.sat hS) (lj hp 1 _ rfl))) ?_;obtain⟨ca_p,rfl⟩:∃q,ca=some q:=(hpc.sat hS).av (by omega);obtain⟨s,hs⟩:∃zz_,d.ab[k]?=some zz_:=⟨_,List.getElem?_eq_getElem (by omega)⟩;refine u1 0 (aj rfl rfl dm cA (by omega) (by omega)) ?_;refine u1 0 (ad (cs:=gx s) rfl i6 cA (fun j u e=>bJ (hpc.sat hS) (dC hs j u e))) ?_;refine uN mg hS ?_;clear hS;intro b8 w hS;refine uW (vs:=[_,_,_]) (cs':=[_,_,_]) rfl rfl cA hS ?_;clear hS;intro w hS;refine uO 4 ?_;refine u1 0 (aa rfl bV) ?_;refine u1 0 (ld rfl aQ) ?_;refine aR 0 0 (eo rfl rfl) ?_ ?_
     ·intro h73;refine uO 1 ?_;refine u1 0 (aa rfl bV) ?_;refine u1 0 (ld rfl aQ) ?_;refine aR 0 0 (aw rfl rfl) ?_ ?_
      ·intro h77;obtain⟨lA,lc,hl1⟩:=hT1.get (show s.rep.toNat<16 by omega);obtain⟨mA,mc,hl2⟩:=hT2.get (show s.rep.toNat<16 by omega);have hlen:=nO ((ps.map PL.d).take i) d (min d.vec.length 16) k s.rep.toNat;have hq1:((dp ((ps.map PL.d).take i) d (min d.vec.length 16) k s.rep.toNat).map Prod.fst).length≤100000000000:=by rw[List.length_map];omega
       have hq2:((dp ((ps.map PL.d).take i) d (min d.vec.length 16) k s.rep.toNat).map Prod.snd).length≤100000000000:=by rw[List.length_map];omega
       intro a hA;replace hS:Sat W w (cI 3 lA lc ((dp ((ps.map PL.d).take i) d (min d.vec.length 16) k s.rep.toNat).map Prod.fst)::_):=(hS.p 2).dN (iP hl1);refine rO 5 hA ?_;clear hA a;intro a hA;refine jh [11] (lr W [bt ((l1.map (Loc.eZ 3)).eraseIdx s.rep.toNat),a8 b8 (.cells #[.int .i64 s.rep,.int .i64 s.lo,.int .i64 s.hi] 219),dz 375 b3 l1,dz 375 b4 l2,bt (l2.map (Loc.eZ 3)),dz 377 b2 (List.replicate 16 (⟨none,0,[]⟩:Loc Int))]) (by kernel_rfl) ?_;replace hS:=hS.drew;refine P1 0 [] hA rfl (fun w=>(aa (hA.ev rfl) bV)) ?_;clear hA a
       refine cT 1 [] rfl (by exact⟨[_],hS⟩) (fun w hT=>have hS:=hT.sat;(ld rfl aQ)) ?_;refine bz 2 [] rfl (fun w=>(aa rfl bV)) ?_;refine cT 3 [] rfl (by exact⟨[_],hS⟩) (fun w hT=>have hS:=hT.sat;(ld rfl aQ)) ?_;refine bz 4 [] rfl (fun w=>(aW rfl rfl fA fS (by omega) (by omega))) ?_;refine cT 5 [] rfl (by exact⟨[_],hS⟩) (fun w hT=>have hS:=hT.sat;(aq rfl cW (gF (hS.p 2) hl1))) ?_;refine bz 6 [] rfl (fun w=>(aa rfl dS)) ?_;refine cT 7 [] rfl (by exact⟨[_],hS⟩) (fun w hT=>have hS:=hT.sat;(ld rfl aQ)) ?_;intro a hA;refine aG 8 (by kernel_rfl) ?_;refine eL hA rfl rfl rfl aE jQ rfl rfl rfl (by simp[Value.oneCell']) hS ?_;clear hA a hS;intro A87 w hS;intro a hA;refine⟨.inr fun _=>(by exact⟨[_,_],hS⟩),?_⟩;refine aG 9 (by kernel_rfl) ?_
       refine eA hA rfl rfl rfl rfl aE jQ rfl (hS.p 1) (hS.rd.src aE (by simp[Value.oneCell'])) (by omega) (by omega) ?_;clear hA a hS;intro A88 c88 w hc88 hS;intro a hA;refine⟨.inr fun _=>(by exact⟨[_,_],hS⟩),?_⟩;refine P1 10 [] hA rfl (fun w=>(aW (hA.ev rfl) (hA.ev rfl) fA fS (by omega) (by omega))) ?_;clear hA a;intro a hA;refine aG 11 (by kernel_rfl) ?_;refine HD (i:=s.rep.toNat) ⟨A88,c88,(dp ((ps.map PL.d).take i) d (min d.vec.length 16) k s.rep.toNat).map Prod.fst++[s.lo]⟩ hA rfl rfl (by simp) rfl (by simp[Loc.v]) cW fS (hS.p 4) hl1 ?_;clear hS;intro w hS;replace hS:=jH (f:=Loc.eZ 3) hl1 (l':=⟨A88,c88,(dp ((ps.map PL.d).take i) d (min d.vec.length 16) k s.rep.toNat).map Prod.fst++[s.lo]⟩) (iH ((hS.p 3).p 2) (by simp) (by simp));replace hS:=(hS.p 2).drop
       replace hS:Sat W w (cI 3 mA mc ((dp ((ps.map PL.d).take i) d (min d.vec.length 16) k s.rep.toNat).map Prod.snd)::_):=(hS.p 4).dN (iP hl2);refine⟨.inl rfl,?_⟩;refine ak (by kernel_rfl) ?_ _;refine rE 1 hA ?_;clear hA a;intro a hA;refine jh [11] (lr W [bt ((l2.map (Loc.eZ 3)).eraseIdx s.rep.toNat),bt ((l1.set s.rep.toNat ⟨A88,c88,(dp ((ps.map PL.d).take i) d (min d.vec.length 16) k s.rep.toNat).map Prod.fst++[s.lo]⟩).map (Loc.eZ 3)),dz 375 b3 (l1.set s.rep.toNat ⟨A88,c88,(dp ((ps.map PL.d).take i) d (min d.vec.length 16) k s.rep.toNat).map Prod.fst++[s.lo]⟩),a8 b8 (.cells #[.int .i64 s.rep,.int .i64 s.lo,.int .i64 s.hi] 219),dz 375 b4 l2,dz 377 b2 (List.replicate 16 (⟨none,0,[]⟩:Loc Int))]) (by kernel_rfl) ?_;replace hS:=hS.drew;refine P1 0 [] hA rfl (fun w=>(aa (hA.ev rfl) bV)) ?_;clear hA a
       refine cT 1 [] rfl (by exact⟨[_],hS⟩) (fun w hT=>have hS:=hT.sat;(ld rfl aQ)) ?_;refine bz 2 [] rfl (fun w=>(aa rfl bV)) ?_;refine cT 3 [] rfl (by exact⟨[_],hS⟩) (fun w hT=>have hS:=hT.sat;(ld rfl aQ)) ?_;refine bz 4 [] rfl (fun w=>(aW rfl rfl fA fS (by omega) (by omega))) ?_;refine cT 5 [] rfl (by exact⟨[_],hS⟩) (fun w hT=>have hS:=hT.sat;(aq rfl cW (gF (hS.p 4) hl2))) ?_;refine bz 6 [] rfl (fun w=>(aa rfl dR)) ?_;refine cT 7 [] rfl (by exact⟨[_],hS⟩) (fun w hT=>have hS:=hT.sat;(ld rfl aQ)) ?_;intro a hA;refine aG 8 (by kernel_rfl) ?_;refine eL hA rfl rfl rfl aE jQ rfl rfl rfl (by simp[Value.oneCell']) hS ?_;clear hA a hS;intro A98 w hS;intro a hA;refine⟨.inr fun _=>(by exact⟨[_,_],hS⟩),?_⟩;refine aG 9 (by kernel_rfl) ?_
       refine eA hA rfl rfl rfl rfl aE jQ rfl (hS.p 1) (hS.rd.src aE (by simp[Value.oneCell'])) (by omega) (by omega) ?_;clear hA a hS;intro A99 c99 w hc99 hS;intro a hA;refine⟨.inr fun _=>(by exact⟨[_,_],hS⟩),?_⟩;refine P1 10 [] hA rfl (fun w=>(aW (hA.ev rfl) (hA.ev rfl) fA fS (by omega) (by omega))) ?_;clear hA a;intro a hA;refine aG 11 (by kernel_rfl) ?_;refine HD (i:=s.rep.toNat) ⟨A99,c99,(dp ((ps.map PL.d).take i) d (min d.vec.length 16) k s.rep.toNat).map Prod.snd++[s.hi]⟩ hA rfl rfl (by simp) rfl (by simp[Loc.v]) cW fS (hS.p 6) hl2 ?_;clear hS;intro w hS;refine⟨.inl rfl,?_⟩;refine ak (by kernel_rfl) ?_ _;refine rE 4 hA ?_;clear hA a;refine u1 2 (ah rfl rfl (by omega) (by omega)) ?_;intro a hA;replace hA:=hA.kp [0,2,3,4,5,7] rfl
       have hS2:=jH (f:=Loc.eZ 3) hl2 (l':=⟨A99,c99,(dp ((ps.map PL.d).take i) d (min d.vec.length 16) k s.rep.toNat).map Prod.snd++[s.hi]⟩) (iH ((hS.p 3).p 2) (by simp) (by simp));have hst:=fun q=>fb (T:=((ps.map PL.d).take i)) (j:=min d.vec.length 16) hs q
       refine⟨d.ab.length-(k+1),by omega,k+1,_,_,hA,(((((hS2.p 6).p 1).p 2).p 4).p 5).cZ [_,_,_,_,_],by omega,?_,?_,rfl⟩
       ·refine hT1.set ?_ fun q hq hne=>?_
        ·rw[hst,if_pos (by omega)];simp
        ·rw[hst,if_neg (by omega),List.append_nil]
       ·refine hT2.set ?_ fun q hq hne=>?_
        ·rw[hst,if_pos (by omega)];simp
        ·rw[hst,if_neg (by omega),List.append_nil]
      ·intro h77;refine uO 9 ?_;refine u1 2 (ah rfl rfl (by omega) (by omega)) ?_;intro a hA;replace hA:=hA.kp [0,2,3,4,5,7] rfl;have hst:=fun q=>fb (T:=((ps.map PL.d).take i)) (j:=min d.vec.length 16) hs q
       refine⟨d.ab.length-(k+1),by omega,k+1,l1,l2,hA,hS.drop,by omega,?_,?_,rfl⟩
       ·exact hT1.congr fun q hq=>by rw[hst,if_neg (by omega),List.append_nil]
       ·exact hT2.congr fun q hq=>by rw[hst,if_neg (by omega),List.append_nil]
     ·intro h73;refine uO 13 ?_;refine u1 2 (ah rfl rfl (by omega) (by omega)) ?_;intro a hA;replace hA:=hA.kp [0,2,3,4,5,7] rfl;have hst:=fun q=>fb (T:=((ps.map PL.d).take i)) (j:=min d.vec.length 16) hs q
      refine⟨d.ab.length-(k+1),by omega,k+1,l1,l2,hA,hS.drop,by omega,?_,?_,rfl⟩
      ·exact hT1.congr fun q hq=>by rw[hst,if_neg (by omega),List.append_nil]
      ·exact hT2.congr fun q hq=>by rw[hst,if_neg (by omega),List.append_nil]
    ·intro h60;intro a hA;dsimp only at h60;refine rO 11 hA ?_;clear hA a;refine u1 2 (ah rfl rfl (by omega) (by omega)) ?_;intro a hA;replace hA:=hA.kp [0,2,3,4,5] rfl;refine⟨ps.length-(i+1),by omega,i+1,l1,l2,hA,hS,by omega,?_,?_,rfl⟩
     ·rw[aD (kK hp)];exact hT1.congr fun r hr=>by rw[←nK hr (show d.ab.length≤k by omega)]
     ·rw[aD (kK hp)];exact hT2.congr fun r hr=>by rw[←nK hr (show d.ab.length≤k by omega)]
  ·intro h24;intro a hA;dsimp only at h24;obtain rfl:j=min d.vec.length 16:=by omega
   refine rO 18 hA ?_;clear hA a;intro a hA;refine wp_loop_ghost (fun (mm:Nat) a w=>∃(k:Nat) (l1 l2:List (Loc Int)),Ag a 116 [(0,.slice (some A_p) (ps).length c),(2,.pointer (some ⟨b2,0,none⟩)),(3,.pointer (some ⟨b3,0,none⟩)),(4,.pointer (some ⟨b4,0,none⟩)),(5,.int .i64 ((i:Nat):Int)),(7,.int .i64 ((k:Nat):Int))]∧Sat W w ([dz 375 b3 l1,bt (l1.map (Loc.eZ 3)),dz 375 b4 l2,bt (l2.map (Loc.eZ 3)),dz 377 b2 (List.replicate 16 (⟨none,0,[]⟩:Loc Int))])∧(k≤d.ab.length)∧(dE l1 (fun r=>(dp ((ps.map PL.d).take i) d (min d.vec.length 16) k r).map Prod.fst))∧(dE l2 (fun r=>(dp ((ps.map PL.d).take i) d (min d.vec.length 16) k r).map Prod.snd))∧mm=d.ab.length-k) d.ab.length ?_ ?_
   ·replace hA:=hA.kp [0,2,3,4,5,7] rfl;exact⟨0,_,_,hA,hS,(by omega),(by exact hT1),(by exact hT2),by omega⟩
   intro m a w hI;clear hS hA;obtain⟨k,l1,l2,hA,hS,hk,hT1,hT2,rfl⟩:=hI;refine rC 6 hA ?_;clear hA a;refine u1 0 (aj rfl rfl fK aC (by omega) (by omega)) ?_;refine u1 0 (aA rfl bZ) ?_;refine u1 0 (aq rfl eM (bJ (hR.sat hS) (lj hp 1 _ rfl))) ?_;refine u1 0 (ar rfl dm) ?_;refine aR 0 0 (aw rfl rfl) ?_ ?_
   ·intro h60;intro a hA;dsimp only at h60;refine rO 11 hA ?_;clear hA a;refine u1 0 (aj rfl rfl fK aC (by omega) (by omega)) ?_;refine u1 0 (aA rfl bZ) ?_;refine u1 1 (aq rfl eM (bJ (hR.sat hS) (lj hp 1 _ rfl))) ?_;obtain⟨ca_p,rfl⟩:∃q,ca=some q:=(hpc.sat hS).av (by omega);obtain⟨s,hs⟩:∃zz_,d.ab[k]?=some zz_:=⟨_,List.getElem?_eq_getElem (by omega)⟩;refine u1 0 (aj rfl rfl dm cA (by omega) (by omega)) ?_;refine u1 0 (ad (cs:=gx s) rfl i6 cA (fun j u e=>bJ (hpc.sat hS) (dC hs j u e))) ?_;refine uN mg hS ?_;clear hS;intro b8 w hS;refine uW (vs:=[_,_,_]) (cs':=[_,_,_]) rfl rfl cA hS ?_;clear hS;intro w hS;refine uO 4 ?_;refine u1 0 (aa rfl bV) ?_;refine u1 0 (ld rfl aQ) ?_;refine aR 0 0 (eo rfl rfl) ?_ ?_
    ·intro h73;refine uO 1 ?_;refine u1 0 (aa rfl bV) ?_;refine u1 0 (ld rfl aQ) ?_;refine aR 0 0 (aw rfl rfl) ?_ ?_
     ·intro h77;obtain⟨lA,lc,hl1⟩:=hT1.get (show s.rep.toNat<16 by omega);obtain⟨mA,mc,hl2⟩:=hT2.get (show s.rep.toNat<16 by omega);have hlen:=nO ((ps.map PL.d).take i) d (min d.vec.length 16) k s.rep.toNat;have hq1:((dp ((ps.map PL.d).take i) d (min d.vec.length 16) k s.rep.toNat).map Prod.fst).length≤100000000000:=by rw[List.length_map];omega
      have hq2:((dp ((ps.map PL.d).take i) d (min d.vec.length 16) k s.rep.toNat).map Prod.snd).length≤100000000000:=by rw[List.length_map];omega
      intro a hA;replace hS:Sat W w (cI 3 lA lc ((dp ((ps.map PL.d).take i) d (min d.vec.length 16) k s.rep.toNat).map Prod.fst)::_):=(hS.p 2).dN (iP hl1);refine rO 5 hA ?_;clear hA a;intro a hA;refine jh [11] (lr W [bt ((l1.map (Loc.eZ 3)).eraseIdx s.rep.toNat),a8 b8 (.cells #[.int .i64 s.rep,.int .i64 s.lo,.int .i64 s.hi] 219),dz 375 b3 l1,dz 375 b4 l2,bt (l2.map (Loc.eZ 3)),dz 377 b2 (List.replicate 16 (⟨none,0,[]⟩:Loc Int))]) (by kernel_rfl) ?_;replace hS:=hS.drew;refine P1 0 [] hA rfl (fun w=>(aa (hA.ev rfl) bV)) ?_;clear hA a
      refine cT 1 [] rfl (by exact⟨[_],hS⟩) (fun w hT=>have hS:=hT.sat;(ld rfl aQ)) ?_;refine bz 2 [] rfl (fun w=>(aa rfl bV)) ?_;refine cT 3 [] rfl (by exact⟨[_],hS⟩) (fun w hT=>have hS:=hT.sat;(ld rfl aQ)) ?_;refine bz 4 [] rfl (fun w=>(aW rfl rfl fA fS (by omega) (by omega))) ?_;refine cT 5 [] rfl (by exact⟨[_],hS⟩) (fun w hT=>have hS:=hT.sat;(aq rfl cW (gF (hS.p 2) hl1))) ?_;refine bz 6 [] rfl (fun w=>(aa rfl dS)) ?_;refine cT 7 [] rfl (by exact⟨[_],hS⟩) (fun w hT=>have hS:=hT.sat;(ld rfl aQ)) ?_;intro a hA;refine aG 8 (by kernel_rfl) ?_;refine eL hA rfl rfl rfl aE jQ rfl rfl rfl (by simp[Value.oneCell']) hS ?_;clear hA a hS;intro A87 w hS;intro a hA;refine⟨.inr fun _=>(by exact⟨[_,_],hS⟩),?_⟩;refine aG 9 (by kernel_rfl) ?_
      refine eA hA rfl rfl rfl rfl aE jQ rfl (hS.p 1) (hS.rd.src aE (by simp[Value.oneCell'])) (by omega) (by omega) ?_;clear hA a hS;intro A88 c88 w hc88 hS;intro a hA;refine⟨.inr fun _=>(by exact⟨[_,_],hS⟩),?_⟩;refine P1 10 [] hA rfl (fun w=>(aW (hA.ev rfl) (hA.ev rfl) fA fS (by omega) (by omega))) ?_;clear hA a;intro a hA;refine aG 11 (by kernel_rfl) ?_;refine HD (i:=s.rep.toNat) ⟨A88,c88,(dp ((ps.map PL.d).take i) d (min d.vec.length 16) k s.rep.toNat).map Prod.fst++[s.lo]⟩ hA rfl rfl (by simp) rfl (by simp[Loc.v]) cW fS (hS.p 4) hl1 ?_;clear hS;intro w hS;replace hS:=jH (f:=Loc.eZ 3) hl1 (l':=⟨A88,c88,(dp ((ps.map PL.d).take i) d (min d.vec.length 16) k s.rep.toNat).map Prod.fst++[s.lo]⟩) (iH ((hS.p 3).p 2) (by simp) (by simp));replace hS:=(hS.p 2).drop
      replace hS:Sat W w (cI 3 mA mc ((dp ((ps.map PL.d).take i) d (min d.vec.length 16) k s.rep.toNat).map Prod.snd)::_):=(hS.p 4).dN (iP hl2);refine⟨.inl rfl,?_⟩;refine ak (by kernel_rfl) ?_ _;refine rE 1 hA ?_;clear hA a;intro a hA;refine jh [11] (lr W [bt ((l2.map (Loc.eZ 3)).eraseIdx s.rep.toNat),bt ((l1.set s.rep.toNat ⟨A88,c88,(dp ((ps.map PL.d).take i) d (min d.vec.length 16) k s.rep.toNat).map Prod.fst++[s.lo]⟩).map (Loc.eZ 3)),dz 375 b3 (l1.set s.rep.toNat ⟨A88,c88,(dp ((ps.map PL.d).take i) d (min d.vec.length 16) k s.rep.toNat).map Prod.fst++[s.lo]⟩),a8 b8 (.cells #[.int .i64 s.rep,.int .i64 s.lo,.int .i64 s.hi] 219),dz 375 b4 l2,dz 377 b2 (List.replicate 16 (⟨none,0,[]⟩:Loc Int))]) (by kernel_rfl) ?_;replace hS:=hS.drew;refine P1 0 [] hA rfl (fun w=>(aa (hA.ev rfl) bV)) ?_;clear hA a
      refine cT 1 [] rfl (by exact⟨[_],hS⟩) (fun w hT=>have hS:=hT.sat;(ld rfl aQ)) ?_;refine bz 2 [] rfl (fun w=>(aa rfl bV)) ?_;refine cT 3 [] rfl (by exact⟨[_],hS⟩) (fun w hT=>have hS:=hT.sat;(ld rfl aQ)) ?_;refine bz 4 [] rfl (fun w=>(aW rfl rfl fA fS (by omega) (by omega))) ?_;refine cT 5 [] rfl (by exact⟨[_],hS⟩) (fun w hT=>have hS:=hT.sat;(aq rfl cW (gF (hS.p 4) hl2))) ?_;refine bz 6 [] rfl (fun w=>(aa rfl dR)) ?_;refine cT 7 [] rfl (by exact⟨[_],hS⟩) (fun w hT=>have hS:=hT.sat;(ld rfl aQ)) ?_;intro a hA;refine aG 8 (by kernel_rfl) ?_;refine eL hA rfl rfl rfl aE jQ rfl rfl rfl (by simp[Value.oneCell']) hS ?_;clear hA a hS;intro A98 w hS;intro a hA;refine⟨.inr fun _=>(by exact⟨[_,_],hS⟩),?_⟩;refine aG 9 (by kernel_rfl) ?_
      refine eA hA rfl rfl rfl rfl aE jQ rfl (hS.p 1) (hS.rd.src aE (by simp[Value.oneCell'])) (by omega) (by omega) ?_;clear hA a hS;intro A99 c99 w hc99 hS;intro a hA;refine⟨.inr fun _=>(by exact⟨[_,_],hS⟩),?_⟩;refine P1 10 [] hA rfl (fun w=>(aW (hA.ev rfl) (hA.ev rfl) fA fS (by omega) (by omega))) ?_;clear hA a;intro a hA;refine aG 11 (by kernel_rfl) ?_;refine HD (i:=s.rep.toNat) ⟨A99,c99,(dp ((ps.map PL.d).take i) d (min d.vec.length 16) k s.rep.toNat).map Prod.snd++[s.hi]⟩ hA rfl rfl (by simp) rfl (by simp[Loc.v]) cW fS (hS.p 6) hl2 ?_;clear hS;intro w hS;refine⟨.inl rfl,?_⟩;refine ak (by kernel_rfl) ?_ _;refine rE 4 hA ?_;clear hA a;refine u1 2 (ah rfl rfl (by omega) (by omega)) ?_;intro a hA;replace hA:=hA.kp [0,2,3,4,5,7] rfl
      have hS2:=jH (f:=Loc.eZ 3) hl2 (l':=⟨A99,c99,(dp ((ps.map PL.d).take i) d (min d.vec.length 16) k s.rep.toNat).map Prod.snd++[s.hi]⟩) (iH ((hS.p 3).p 2) (by simp) (by simp));have hst:=fun q=>fb (T:=((ps.map PL.d).take i)) (j:=min d.vec.length 16) hs q
      refine⟨d.ab.length-(k+1),by omega,k+1,_,_,hA,(((((hS2.p 6).p 1).p 2).p 4).p 5).cZ [_,_,_,_,_],by omega,?_,?_,rfl⟩
      ·refine hT1.set ?_ fun q hq hne=>?_
       ·rw[hst,if_pos (by omega)];simp
       ·rw[hst,if_neg (by omega),List.append_nil]
      ·refine hT2.set ?_ fun q hq hne=>?_
       ·rw[hst,if_pos (by omega)];simp
       ·rw[hst,if_neg (by omega),List.append_nil]
     ·intro h77;refine uO 9 ?_;refine u1 2 (ah rfl rfl (by omega) (by omega)) ?_;intro a hA;replace hA:=hA.kp [0,2,3,4,5,7] rfl;have hst:=fun q=>fb (T:=((ps.map PL.d).take i)) (j:=min d.vec.length 16) hs q
      refine⟨d.ab.length-(k+1),by omega,k+1,l1,l2,hA,hS.drop,by omega,?_,?_,rfl⟩
      ·exact hT1.congr fun q hq=>by rw[hst,if_neg (by omega),List.append_nil]
      ·exact hT2.congr fun q hq=>by rw[hst,if_neg (by omega),List.append_nil]
    ·intro h73;refine uO 13 ?_;refine u1 2 (ah rfl rfl (by omega) (by omega)) ?_;intro a hA;replace hA:=hA.kp [0,2,3,4,5,7] rfl;have hst:=fun q=>fb (T:=((ps.map PL.d).take i)) (j:=min d.vec.length 16) hs q
     refine⟨d.ab.length-(k+1),by omega,k+1,l1,l2,hA,hS.drop,by omega,?_,?_,rfl⟩
     ·exact hT1.congr fun q hq=>by rw[hst,if_neg (by omega),List.append_nil]
     ·exact hT2.congr fun q hq=>by rw[hst,if_neg (by omega),List.append_nil]
   ·intro h60;intro a hA;dsimp only at h60;refine rO 11 hA ?_;clear hA a;refine u1 2 (ah rfl rfl (by omega) (by omega)) ?_;intro a hA;replace hA:=hA.kp [0,2,3,4,5] rfl;refine⟨ps.length-(i+1),by omega,i+1,l1,l2,hA,hS,by omega,?_,?_,rfl⟩
    ·rw[aD (kK hp)];exact hT1.congr fun r hr=>by rw[←nK hr (show d.ab.length≤k by omega)]
    ·rw[aD (kK hp)];exact hT2.congr fun r hr=>by rw[←nK hr (show d.ab.length≤k by omega)]
 ·intro h14;obtain rfl:i=ps.length:=by omega
  intro a hA;rw[List.take_of_length_le (by simp)]at hT1 hT2;refine rO 10 hA ?_;clear hA a;refine uN wR hS ?_;clear hS;intro b9 w hS;refine uO 9 ?_;intro a hA;refine wp_loop_ghost (fun (mm:Nat) a w=>∃(r:Nat) (l3:List (Loc Int)),Ag a 116 [(2,.pointer (some ⟨b2,0,none⟩)),(3,.pointer (some ⟨b3,0,none⟩)),(4,.pointer (some ⟨b4,0,none⟩)),(9,.pointer (some ⟨b9,0,none⟩)),(10,.int .i64 ((r:Nat):Int))]∧Sat W w ([dz 377 b9 l3,bt (l3.map (Loc.eZ 3)),dz 375 b3 l1,bt (l1.map (Loc.eZ 3)),dz 375 b4 l2,bt (l2.map (Loc.eZ 3)),dz 377 b2 (List.replicate 16 (⟨none,0,[]⟩:Loc Int))])∧(r≤16)∧(dE l3 (wW (ps.map PL.d) r))∧mm=16-r) 16 ?_ ?_
  ·replace hA:=hA.kp [2,3,4,9,10] rfl;have hS0:=k8 (Loc.eZ 3) hS (fun L' s=>s.aY 3 1) 16;have hS1:Sat W w [dz 377 b9 (List.replicate 16 (⟨none,0,[]⟩:Loc Int)),bt ((List.replicate 16 (⟨none,0,[]⟩:Loc Int)).map (Loc.eZ 3)),dz 375 b3 l1,bt (l1.map (Loc.eZ 3)),dz 375 b4 l2,bt (l2.map (Loc.eZ 3)),dz 377 b2 (List.replicate 16 (⟨none,0,[]⟩:Loc Int))]:=hS0.p 1;exact⟨0,_,hA,hS1,(by omega),(by exact kq.congr fun r hr=>by simp[wW]),by omega⟩
  intro m a w hI;clear hS hA;obtain⟨r,l3,hA,hS,hr,hT3,rfl⟩:=hI;refine rC 4 hA ?_;clear hA a;refine aR 0 0 (aw rfl rfl) ?_ ?_
  ·intro h102;obtain⟨lA,lc,hl1⟩:=hT1.get (show r<16 by omega);obtain⟨mA,mc,hl2⟩:=hT2.get (show r<16 by omega);obtain⟨nA,nc,hl3⟩:=hT3.get (show r<16 by omega);have hrl:=Nat.le_trans (ku (ps.map PL.d) r) ht;refine uO 7 ?_;intro a hA;refine bh [7,10] hS (by kernel_rfl) ?_;replace hS:=hS.drew;refine rX [0,1] hA ?_;clear hA a;refine bz 2 [] rfl (fun w=>(aW rfl rfl fA fS (by omega) (by omega))) ?_;refine cT 3 [4] rfl (by exact⟨[],hS⟩) (fun w hT=>have hS:=hT.sat;(aq rfl cW (gF (hS.p 2) hl1))) ?_;refine bz 5 [] rfl (fun w=>(aW rfl rfl fA fS (by omega) (by omega))) ?_;refine cT 6 [] rfl (by exact⟨[],hS⟩) (fun w hT=>have hS:=hT.sat;(aq rfl cW (gF (hS.p 4) hl2))) ?_;refine bz 8 [] rfl (fun w=>(aa rfl ig)) ?_;intro a hA;refine aG 7 (by kernel_rfl) ?_
   refine eF hA rfl rfl KK rfl (yC _ _ _ _ _ _ _ (gl (ps.map PL.d) r) (ko (hS.p 3) hl1) (ko (hS.p 5) hl2) (List.length_map _) (List.length_map _) hrl) ?_;clear hA a;rintro e w ⟨A112,c112,rfl,hT⟩;replace hS:=hS.aB hT;clear hT;refine⟨_,rfl,?_⟩;intro a hA;refine⟨.inl rfl,?_⟩;refine P1 9 [] hA rfl (fun w=>(aW (hA.ev rfl) (hA.ev rfl) fA fS (by omega) (by omega))) ?_;clear hA a;intro a hA;refine aG 10 (by kernel_rfl) ?_;refine HD (i:=r) ⟨A112,c112,bI (ax (gl (ps.map PL.d) r))⟩ hA rfl rfl (by simp) rfl rfl cW fS (hS.p 1) hl3 ?_;clear hS;intro w hS;refine⟨.inl rfl,?_⟩;refine ak (by kernel_rfl) ?_ _;refine rE 4 hA ?_;clear hA a;refine u1 2 (ah rfl rfl (by omega) (by omega)) ?_;intro a hA;replace hA:=hA.kp [2,3,4,9,10] rfl;have hS2:=((hS.p 2).dN (iP hl3)).drop
   have hS3:=jH (f:=Loc.eZ 3) hl3 (l':=⟨A112,c112,bI (ax (gl (ps.map PL.d) r))⟩) (((hS2.p 1).p 1).p 2);refine⟨16-(r+1),by omega,r+1,_,hA,hS3.p 1,by omega,?_,rfl⟩;exact hT3.set (Cu _ _).symm fun k hk hne=>Db hne
  ·intro h102;obtain rfl:r=16:=by omega
   refine uO 8 ?_;intro a hA;replace hA:=hA.kp [2,9] rfl;refine rC 2 hA ?_;clear hA a;refine u1 0 (ad (cs:=l3.map Loc.v) rfl ye (by rw[List.length_map,hT3.1];exact qX) (kL hS)) ?_;intro a hA;refine FA (ls:=l3) hA rfl rfl qX hT3.1 (by simp) (hS.p 6) ?_;clear hS;intro w hS;refine rO 3 hA ?_;clear hA a;intro a hA;refine gX hA rfl (dg (cs:=l3.map Loc.v) hA rfl ye (by rw[List.length_map,hT3.1];exact qX) (kL hS)) ?_;exact⟨l3,rfl,hT3.congr fun r hr=>if_pos hr,fz (hS.p 2)⟩
theorem oV (W:World)(p:PL)(hp:p.ok W)(hlc:p.d.ab.length≤10000000000):Calls Tryz.prog 260 #[.agg #[.slice p.va p.d.vec.length p.vc,.slice p.ca p.d.ab.length p.cc]] W fun e w'=>∃ls:List (Loc Int),e=.returned (.agg (ls.map Loc.v).toArray)∧dE ls (fun r=>bI (aN p.d r))∧Sat W w' [bt (ls.map (Loc.eZ 3))]:=by
 refine enter Tryz.func260 rfl rfl rfl (.cons (i:=0) rfl .nil) ?_;have hS:=Sat.start W;refine uC 2 ?_;refine uB rfl hS ?_;clear hS;intro b1 w hS;refine uN wR hS ?_;clear hS;intro b2 w hS;refine uO 4 ?_;refine u1 0 (ad (cs:=[_,_]) rfl a6 aC (by exact (hS.p 1).ag (xs:=[_,_]) rfl)) ?_;intro a hA;refine ji (vss:=[[_,_]]) hA rfl rfl fK pM rfl rfl rfl (by simp) rfl hS ?_;clear hA a hS;intro A4 w hS;refine uF JQ rfl (AT _ _ _ [p] hS.rd (fun q hq=>by simp at hq;subst hq;exact hp.sat hS) (by simp) (by simp[cN];omega)) ?_;rintro e w ⟨ls,rfl,hT0,hT⟩;replace hS:=hS.aB hT;clear hT;have hT1:dE ls (fun r=>bI (aN p.d r)):=hT0.congr fun r hr=>(by simp[gl,aN])
 refine⟨_,rfl,?_⟩;intro a hA;refine FA (ls:=ls) (cs:=((List.replicate 16 (⟨none,0,[]⟩:Loc Int)).map Loc.v)) hA rfl rfl qX hT1.1 (by simp) (hS.p 2) ?_;clear hS;intro w hS;refine rO 3 hA ?_;clear hA a;intro a hA;refine gX hA rfl (dg (cs:=ls.map Loc.v) hA rfl ye (by rw[List.length_map,hT1.1];exact qX) (kL hS)) ?_;exact⟨ls,rfl,hT1,fz hS.qV⟩
end Go.Proofs.YtkjabaihpkbfhaaGreat.Wk
