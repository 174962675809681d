/- Texts of our own that a row leans on, put together. No condition of their own. -/
import Derived.WalkKit
import Derived.KernelRfl
import Derived.Deep.Draws
import Derived.Deep.AppendSrc
import Derived.Deep.Upon
import Derived.Deep.LoopGhost
import Derived.OrdersHeld
import Derived.Deep.Quiet
import Derived.StillTail
import Derived.SizedLaws
import Derived.ChangeSlices
import Derived.WideShapes
import Derived.Laws.BytesArg
import Derived.Lib.ConvBytes
import Derived.LoopN
import Derived.Laws.StructEq
import Derived.Orders
import Derived.Lib.Walk
import Derived.Test.YtkjabaihpkbfhaaGreatProg
import Derived.Recover
import Derived.RangeFuncNested
import Derived.RangeFuncCalls
import Derived.RangeFuncLeaves
import Derived.OwnWalkIn
import Derived.Shelf.SlLaysF0
import Derived.Shelf.SlSortCmp.NoneTotal
import Derived.Shelf.SlSortCmp.WholeK
import Derived.Lib.Bytealg
import Derived.Laws.Strings
set_option linter.unusedVariables false
set_option linter.unusedSimpArgs false
set_option maxRecDepth 100000
set_option maxHeartbeats 2000000
namespace Go.Proofs.YtkjabaihpkbfhaaGreat.K
open Go Go.RowKit
abbrev Hp:=Nat→Option Obj
abbrev As:=Hp→Prop
def Sub (h k:Hp):Prop:=∀b o,h b=some o→k b=some o
def lT (h k:Hp):Prop:=∀b,h b=none∨k b=none
theorem Sub.refl (h:Hp):Sub h h:=fun _ _ e=>e
theorem Sub.trans {h k l:Hp}(a:Sub h k)(b:Sub k l):Sub h l:=fun _ _ e=>b _ _ (a _ _ e)
theorem lT.symm {h k:Hp}(a:lT h k):lT k h:=fun b=>(a b).symm
theorem lT.sub {h k h' k':Hp}(a:lT h k)(s:Sub h' h)(t:Sub k' k):lT h' k':=fun b=>by
 rcases a b with e | e
 ·
  left;cases e':h' b with
  | none=>rfl
  | some o=>rw[s b o e']at e;cases e
 ·
  right;cases e':k' b with
  | none=>rfl
  | some o=>rw[t b o e']at e;cases e
def holds:List As→Hp→Prop
 | [],_=>True
 | A::L,h=>∃h1 h2,lT h1 h2∧Sub h1 h∧Sub h2 h∧A h1∧holds L h2
theorem holds.up:∀ {L:List As} {h k:Hp},holds L h→Sub h k→holds L k
 | [],_,_,_,_=>trivial
 | _::_,_,_,⟨h1,h2,a,s1,s2,x,y⟩,s=>⟨h1,h2,a,s1.trans s,s2.trans s,x,y⟩
def Hp.join (h k:Hp):Hp:=fun b=>match h b with | some o=>some o | none=>k b
theorem mF (h k:Hp):Sub h (h.join k):=fun b o e=>by simp[Hp.join,e]
theorem lx {h k:Hp}(a:lT h k):Sub k (h.join k):=fun b o e=>by
 rcases a b with e' | e'
 ·
  simp[Hp.join,e',e]
 ·
  rw[e]at e';cases e'
theorem np {h k l:Hp}(s:Sub h l)(t:Sub k l):Sub (h.join k) l:=fun b o e=>by
 unfold Hp.join at e
 split at e
 ·
  rename_i o' e';cases e;exact s _ _ e'
 ·
  exact t _ _ e
theorem nH {h k l:Hp}(a:lT h l)(b:lT k l):lT (h.join k) l:=fun x=>by
 rcases a x with e | e
 ·
  rcases b x with e' | e'
  ·
   left;simp[Hp.join,e,e']
  ·
   exact .inr e'
 ·
  exact .inr e
theorem holds.swap {A B:As}{L:List As}{h:Hp}:holds (A::B::L) h→holds (B::A::L) h
 | ⟨h1, h2, a, s1, s2, x, g1, g2, b, t1, t2, y, z⟩ =>
   ⟨g1,h1.join g2,(nH (a.sub (Sub.refl _) t1) b.symm).symm,t1.trans s2,np s1 (t2.trans s2),y,
    h1,g2,a.sub (Sub.refl _) t2,mF _ _,lx (a.sub (Sub.refl _) t2),x,z⟩
theorem holds.cons {A:As}{L L':List As}(f:∀h,holds L h→holds L' h){h:Hp}:holds (A::L) h→holds (A::L') h
 | ⟨h1,h2,a,s1,s2,x,y⟩=>⟨h1,h2,a,s1,s2,x,f _ y⟩
theorem holds.tail {A:As}{L:List As}{h:Hp}:holds (A::L) h→holds L h
 | ⟨_,_,_,_,s2,_,y⟩=>y.up s2
theorem holds.perm {L L':List As}(p:L.Perm L'):∀h,holds L h→holds L' h:=by
 induction p with
 | nil=>exact fun _ x=>x
 | cons A _ ih=>exact fun _ x=>x.cons ih
 | swap A B L=>exact fun _ x=>x.swap
 | trans _ _ ih1 ih2=>exact fun h x=>ih2 h (ih1 h x)
structure Sat (W w:World)(L:List As):Prop where
 below:Below W.heap.size W w
 own:∃h:Hp,holds L h∧∀b o,h b=some o→W.heap.size≤b∧w.heap[b]?=some o
def star (A B:As):As:=fun h=>∃h1 h2,lT h1 h2∧Sub h1 h∧Sub h2 h∧A h1∧B h2
def a6 (b:Nat)(o:Obj):As:=fun h=>h b=some o
def bB:List As→As:=fun L h=>holds L h
section
variable {W w:World} {A B C D E G:As} {L:List As}
theorem Sat.start (w:World):Sat w w []:=⟨Below.refl _ _,fun _=>none,trivial,fun _ _ e=>by cases e⟩
theorem Sat.perm {L':List As}(s:Sat W w L)(p:L.Perm L'):Sat W w L':=
 ⟨s.below,let ⟨h,x,y⟩:=s.own;⟨h,holds.perm p h x,y⟩⟩
theorem Sat.imp {A':As}(s:Sat W w (A::L))(f:∀h,A h→A' h):Sat W w (A'::L):=
 ⟨s.below,let ⟨h,⟨h1,h2,a,s1,s2,x,y⟩,z⟩:=s.own;⟨h,⟨h1,h2,a,s1,s2,f _ x,y⟩,z⟩⟩
theorem Sat.drop (s:Sat W w (A::L)):Sat W w L:=⟨s.below,let ⟨h,x,z⟩:=s.own;⟨h,x.tail,z⟩⟩
theorem Sat.qN (s:Sat W w (A::B::L)):Sat W w (B::A::L):=s.perm (.swap ..)
theorem Sat.open_ (s:Sat W w (star A B::L)):Sat W w (A::B::L):=by
 obtain⟨bl,h,⟨h1,h2,a,s1,s2,⟨g1,g2,b,t1,t2,x,y⟩,z⟩,t⟩:=s;refine⟨bl,h,⟨g1,g2.join h2,(nH b.symm (a.symm.sub (Sub.refl _) t1)).symm,t1.trans s1,np (t2.trans s1) s2,x,g2,h2,a.sub t2 (Sub.refl _),mF _ _,lx (a.sub t2 (Sub.refl _)),y,z⟩,t⟩
theorem Sat.shut (s:Sat W w (A::B::L)):Sat W w (star A B::L):=by
 obtain⟨bl,h,⟨h1,h2,a,s1,s2,x,g1,g2,b,t1,t2,y,z⟩,t⟩:=s
 exact⟨bl,h,⟨h1.join g1,g2,nH (a.sub (Sub.refl _) t2) b,np s1 (t1.trans s2),t2.trans s2,
  ⟨h1,g1,a.sub (Sub.refl _) t1,mF _ _,lx (a.sub (Sub.refl _) t1),x,y⟩,z⟩,t⟩
theorem Sat.block {b:Nat}{o:Obj}(s:Sat W w (a6 b o::L)):w.heap[b]?=some o∧W.heap.size≤b:=by
 obtain⟨_,h,⟨h1,h2,a,s1,s2,x,z⟩,t⟩:=s;have:=t b o (s1 _ _ x);exact⟨this.2,this.1⟩
theorem Sat.lt {b:Nat}{o:Obj}(s:Sat W w (a6 b o::L)):b<w.heap.size:=by
 obtain⟨h,_⟩:=s.block;exact (Array.getElem?_eq_some_iff.1 h).1
theorem Sat.pJ {b j:Nat}{cs:Array Value}{t:TypeId}{fr:Nat×Nat}{v:Value}(s:Sat W w (a6 b (.cells cs t fr)::L))(h:cs[j]?=some v):w.cell? ⟨b,j,none⟩=some v:=by
 simp[World.cell?,s.block.1,h]
def nth:List Value→Nat→Option Value
 | [],_=>none
 | v::_,0=>some v
 | _::l,j+1=>nth l j
theorem mj:∀(l:List Value) (j:Nat),nth l j=l[j]?
 | [],_=>rfl
 | _::_,0=>rfl
 | _::l,j+1=>by simpa[nth]using mj l j
theorem Sat.cell {b j:Nat}{cs:Array Value}{t:TypeId}{fr:Nat×Nat}{v:Value}(s:Sat W w (a6 b (.cells cs t fr)::L))(h:nth cs.toList j=some v):w.cell? ⟨b,j,none⟩=some v:=
 s.pJ (by rw[mj]at h;simpa using h)
theorem Sat.free {b j:Nat}{cs:Array Value}{t:TypeId}(s:Sat W w (a6 b (.cells cs t (0,0))::L)):w.frozen? ⟨b,j,none⟩=false:=by
 simp[World.frozen?,s.block.1]
theorem Sat.move {w':World}(s:Sat W w L)(hb:Below W.heap.size w w')(hh:∀b o,W.heap.size≤b→w.heap[b]?=some o→w'.heap[b]?=some o):Sat W w' L:=
 ⟨s.below.trans hb,let ⟨h,x,y⟩:=s.own;⟨h,x,fun b o e=>⟨(y b o e).1,hh _ _ (y b o e).1 (y b o e).2⟩⟩⟩
theorem Sat.drewN (s:Sat W w L)(n:Nat):Sat W (w.drewN n) L:=
 s.move ⟨rfl,rfl,rfl,Nat.le_refl _,fun _ _=>rfl⟩ fun _ _ _ e=>e
theorem Sat.drew (s:Sat W w L):Sat W w.drew L:=s.drewN 1
theorem Sat.write {b:Nat}{o o':Obj}{w':World}(s:Sat W w (a6 b o::L))(hb:Below W.heap.size w w')(hn:w'.heap[b]?=some o')(ho:∀k,k≠b→w'.heap[k]?=w.heap[k]?):Sat W w' (a6 b o'::L):=by
 obtain⟨bl,h,⟨h1,h2,a,s1,s2,x,z⟩,t⟩:=s;refine⟨bl.trans hb,fun k=>if k=b then some o' else h2 k,⟨fun k=>if k=b then some o' else none,h2,fun k=>?_,fun k u e=>?_,fun k u e=>?_,?_,z⟩,fun k u e=>?_⟩
 ·
  by_cases hk:k=b
  ·
   subst hk;right;rcases a k with e | e
   ·
    rw[show h1 k=some o from x]at e;cases e
   ·
    exact e
  ·
   simp[hk]
 ·
  by_cases hk:k=b
  ·
   subst hk;simpa using e
  ·
   simp[hk]at e
 ·
  by_cases hk:k=b
  ·
   subst hk;rcases a k with e' | e'
   ·
    rw[show h1 k=some o from x]at e';cases e'
   ·
    rw[e']at e;cases e
  ·
   simpa[hk]using e
 ·
  simp[a6]
 ·
  by_cases hk:k=b
  ·
   subst hk;simp at e;subst e;exact⟨(t k o (s1 _ _ x)).1,hn⟩
  ·
   simp[hk]at e;obtain⟨p,q⟩:=t k u (s2 _ _ e);exact⟨p,by rw[ho k hk];exact q⟩
theorem Sat.store {b j:Nat}{cs:Array Value}{t:TypeId}{fr:Nat×Nat}(s:Sat W w (a6 b (.cells cs t fr)::L))(v:Value):Sat W (w.setCell ⟨b,j,none⟩ v) (a6 b (.cells (cs.setIfInBounds j v) t fr)::L):=by
 have hlt:=s.lt;obtain⟨hb,hB⟩:=s.block;refine s.write ((Below.refl _ _).setCell (p:=⟨b,j,none⟩) hB v) ?_ fun k hk=>Below.heap_setCell _ _ _ _ hk
 simp only[World.setCell,Array.getElem?_modify,if_true,hb];simp
theorem Sat.alloc (s:Sat W w L)(o:Obj):Sat W (w.alloc o) (a6 w.heap.size o::L):=by
 obtain⟨bl,h,x,t⟩:=s
 have hfresh:h w.heap.size=none:=by
  cases e:h w.heap.size with
  | none=>rfl
  | some u=>have:=(t _ _ e).2;rw[Array.getElem?_eq_none (Nat.le_refl _)]at this;cases this
 refine⟨bl.alloc bl.size o,fun k=>if k=w.heap.size then some o else h k,⟨fun k=>if k=w.heap.size then some o else none,h,fun k=>?_,fun k u e=>?_,fun k u e=>?_,by simp[a6],x⟩,fun k u e=>?_⟩
 ·
  by_cases hk:k=w.heap.size
  ·
   subst hk;exact .inr hfresh
  ·
   simp[hk]
 ·
  by_cases hk:k=w.heap.size
  ·
   simpa[hk]using e
  ·
   simp[hk]at e
 ·
  by_cases hk:k=w.heap.size
  ·
   subst hk;rw[hfresh]at e;cases e
  ·
   simpa[hk]using e
 ·
  by_cases hk:k=w.heap.size
  ·
   subst hk;simp at e;subst e;exact⟨bl.size,by show (w.heap.push _)[w.heap.size]?=_;simp⟩
  ·
   simp[hk]at e;obtain⟨p,q⟩:=t k u e;exact⟨p,by rw[Below.heap_alloc _ _ _ (Array.getElem?_eq_some_iff.1 q).1];exact q⟩
theorem holds.append:∀ {L M:List As} {h k:Hp},holds L h→holds M k→lT h k→holds (L++M) (h.join k)
 | [],_,h,k,_,y,a=>y.up (lx a)
 | A :: L, M, h, k, ⟨h1, h2, b, s1, s2, x, z⟩, y, a =>
   ⟨h1,h2.join k,(nH b.symm (a.sub s1 (Sub.refl _)).symm).symm,s1.trans (mF _ _),np (s2.trans (mF _ _)) (lx a),x,holds.append z y (a.sub s2 (Sub.refl _))⟩
theorem Sat.ag {w':World}{M:List As}(s:Sat W w L)(t:Sat w w' M):Sat W w' (M++L):=by
 obtain⟨bl,h,x,p⟩:=s;obtain⟨bm,k,y,q⟩:=t
 have ha:lT k h:=fun b=>by
  cases e:h b with
  | none=>exact .inr rfl
  | some o =>
    left
    cases e':k b with
    | none=>rfl
    | some u =>
      have h1:=(Array.getElem?_eq_some_iff.1 (p b o e).2).1;have h2:=(q b u e').1;omega
 refine⟨⟨bm.os.trans bl.os,bm.tape.trans bl.tape,bm.output.trans bl.output,Nat.le_trans bl.size bm.size,fun i hi=>?_⟩,k.join h,holds.append y x ha,fun b o e=>?_⟩
 ·
  rw[bm.block i (Nat.lt_of_lt_of_le hi bl.size),bl.block i hi]
 ·
  unfold Hp.join at e
  split at e
  ·
   rename_i e';cases e;obtain⟨q1,q2⟩:=q b _ e';exact⟨Nat.le_trans bl.size q1,q2⟩
  ·
   obtain⟨p1,p2⟩:=p b o e;exact⟨p1,by rw[bm.block b (Array.getElem?_eq_some_iff.1 p2).1];exact p2⟩
end
end Go.Proofs.YtkjabaihpkbfhaaGreat.K
namespace Go.Proofs.YtkjabaihpkbfhaaGreat.K
open Go Go.RowKit
abbrev Env:=List (Nat×Value)
def find (i:Nat):Env→Option Value
 | []=>none
 | (j,v)::E=>bif Nat.beq i j then some v else find i E
structure Ag (a:Act)(n:Nat)(E:Env)(ds:List Deferred:=[]):Prop where
 size:a.tmps.size=n
 defers:a.defers=ds
 at_:∀i v,find i E=some v→a.tmps[i]?=some v
variable {ds:List Deferred}
def fE (E:Env):Operand→Option Value
 | .tmp t=>find t E
 | .const v=>some v
 | .global g=>some (.pointer (some ⟨g,0,none⟩))
 | .func f=>some (.func (.func f) #[] #[])
section
variable {a:Act} {n:Nat} {E:Env}
theorem Ag.ev (h:Ag a n E ds){x:Operand}{v:Value}(e:fE E x=some v):a.eval x=v:=by
 cases x with
 | tmp t=>simp[Act.eval,Array.getD_eq_getD_getElem?,h.at_ t v e]
 | const u=>simpa[fE,Act.eval]using e
 | global g=>simpa[fE,Act.eval]using e
 | func f=>simpa[fE,Act.eval]using e
theorem Ag.put (h:Ag a n E ds){d:Nat}(hd:Nat.blt d n=true)(v:Value):Ag (a.put (some d) v) n ((d,v)::E) ds:=by
 have hdn:d<n:=by simpa[Nat.blt_eq]using hd
 refine⟨by simp[Act.put,h.size],h.defers,fun i u e=>?_⟩;unfold find at e;cases hb:Nat.beq i d with
 | true =>
   rw[hb]at e;have hid:i=d:=Nat.eq_of_beq_eq_true hb;subst hid;simp only[cond_true,Option.some.injEq]at e;subst e;simp[Act.put,Array.getElem?_setIfInBounds,h.size,hdn]
 | false =>
   rw[hb]at e;have hid:¬d=i:=fun hh=>by subst hh;rw[Nat.beq_refl]at hb;cases hb
   simp only[cond_false]at e;simp[Act.put,Array.getElem?_setIfInBounds,hid,h.at_ i u e]
theorem Ag.forget (h:Ag a n E ds){E':Env}(hs:∀p∈E',find p.1 E=some p.2):Ag a n E' ds:=
 ⟨h.size,h.defers,fun i v e=>h.at_ i v (by
  have:∀(L:Env),find i L=some v→∃p∈L,p.1=i∧p.2=v:=by
   intro L
   induction L with
   | nil=>intro e;cases e
   | cons p L ih =>
     intro e;obtain⟨j,u⟩:=p;unfold find at e;cases hb:Nat.beq i j with
     | true=>rw[hb]at e;exact⟨(j,u),by simp,(Nat.eq_of_beq_eq_true hb).symm,by simpa using e⟩
     | false =>
       rw[hb]at e;obtain⟨q,hq,r⟩:=ih (by simpa using e);exact⟨q,List.mem_cons_of_mem _ hq,r⟩
  obtain⟨p,hp,rfl,rfl⟩:=this E' e;exact hs p hp)⟩
theorem Ag.enter (args:Array Value)(n:Nat)(hn:args.size≤n){E:Env}(hs:∀p∈E,args[p.1]?=some p.2) :
 Ag { tmps:=args++Array.replicate (n-args.size) undef,defers:=[] } n E:=by
 have h0:Ag { tmps:=args++Array.replicate (n-args.size) undef,defers:=[] } n ((List.range args.size).map fun i=>(i,args.getD i undef)):=by
  refine⟨by simp;omega,rfl,fun i v e=>?_⟩
  have:∀(L:List Nat),find i (L.map fun i=>(i,args.getD i undef))=some v→i∈L∧v=args.getD i undef:=by
   intro L
   induction L with
   | nil=>intro e;cases e
   | cons j L ih =>
     intro e;simp only[List.map_cons]at e;unfold find at e;cases hb:Nat.beq i j with
     | true =>
       rw[hb]at e;have:=Nat.eq_of_beq_eq_true hb;subst this;exact⟨by simp,by simpa using e.symm⟩
     | false =>
       rw[hb]at e;obtain⟨h1,h2⟩:=ih (by simpa using e);exact⟨List.mem_cons_of_mem _ h1,h2⟩
  obtain⟨h1,rfl⟩:=this _ e;have hi:i<args.size:=by simpa using h1
  simp[Array.getElem?_append,hi,Array.getD]
 refine⟨h0.size,rfl,fun i v e=>?_⟩
 have:∀(L:Env),find i L=some v→∃p∈L,p.1=i∧p.2=v:=by
  intro L
  induction L with
  | nil=>intro e;cases e
  | cons p L ih =>
    intro e;obtain⟨j,u⟩:=p;unfold find at e;cases hb:Nat.beq i j with
    | true=>rw[hb]at e;exact⟨(j,u),by simp,(Nat.eq_of_beq_eq_true hb).symm,by simpa using e⟩
    | false =>
      rw[hb]at e;obtain⟨q,hq,r⟩:=ih (by simpa using e);exact⟨q,List.mem_cons_of_mem _ hq,r⟩
 obtain⟨p,hp,rfl,rfl⟩:=this E e;have:=hs p hp;have hi:p.1<args.size:=(Array.getElem?_eq_some_iff.1 this).1;simp[Array.getElem?_append,hi];exact (Array.getElem?_eq_some_iff.1 this).2
end
section
variable {P:Program} {ops:Array Oper} {Q:Exit→Act→World→Prop} {a:Act} {n:Nat} {E:Env} {w w':World} {rest:List Oper} {o:Oper} {v:Value} {d:Nat}
theorem dI (hd:o.dst=some d)(v:Value):a.put o.dst v=a.put (some d) v:=by rw[hd]
theorem yI (I:Ag a n E ds)(hg:o.guard=none)(hd:o.dst=some d)(hn:Nat.blt d n=true)(hr:(execOp a.eval o).run P w=.ok (.value v) w')
 (k:∀a',Ag a' n ((d,v)::E) ds→wpList P ops Q rest a' w'):wpList P ops Q (o::rest) a w:=by
 refine wpList_plain hg fun K hK=>?_;simp only[Oper.wp,hr,Oper.upon];rw[dI hd];exact hK _ _ (k _ (I.put hn v))
theorem HK (I:Ag a n E ds)(hg:o.guard=none)(hd:o.dst=none)(hr:(execOp a.eval o).run P w=.ok .skip w')
 (k:wpList P ops Q rest a w'):wpList P ops Q (o::rest) a w:=by
 refine wpList_plain hg fun K hK=>?_;simp only[Oper.wp,hr,Oper.upon,hd];exact hK _ _ k
theorem Kw {f:FuncId}{args:Array Value}{R:Ending→World→Prop}(I:Ag a n E ds)(hg:o.guard=none)(hd:o.dst=some d)(hn:Nat.blt d n=true)
 (hr:(execOp a.eval o).run P w=.ok (.enter f args) w) (hc:Calls P f args w R)
 (k:∀e w',R e w'→∃v,e=.returned v∧∀a',Ag a' n ((d,v)::E) ds→wpList P ops Q rest a' w'):wpList P ops Q (o::rest) a w:=by
 refine wpList_plain hg fun K hK=>?_;simp only[Oper.wp,hr,Oper.upon];refine hc.mono fun e w' h=>?_;obtain⟨v,rfl,hk⟩:=k e w' h;show K (a.put o.dst v) w';rw[dI hd];exact hK _ _ (hk _ (I.put hn v))
theorem aT (I:Ag a n E ds){j t:Nat}{b:Bool}(hg:o.guard=some (j,b))(ht:(ops[j]?).bind (·.dst)=some t)(hv:find t E=some (.bool b)):Region.wanted o (yielded ops a.tmps)=true:=by
 simp[Region.wanted,hg,yielded,ht,I.at_ t _ hv]
theorem Dc (I:Ag a n E ds)(hw:Region.wanted o (yielded ops a.tmps)=true)(hd:o.dst=some d)(hn:Nat.blt d n=true)(hr:(execOp a.eval o).run P w=.ok (.value v) w')
 (k:∀a',Ag a' n ((d,v)::E) ds→wpList P ops Q rest a' w'):wpList P ops Q (o::rest) a w:=by
 refine wpList_step fun K hK=>?_;rw[if_pos hw];simp only[Oper.wp,hr,Oper.upon];rw[dI hd];exact hK _ _ (k _ (I.put hn v))
theorem J4 {f:FuncId}{args:Array Value}{R:Ending→World→Prop}(I:Ag a n E ds)(hw:Region.wanted o (yielded ops a.tmps)=true)(hd:o.dst=some d)(hn:Nat.blt d n=true)
 (hr:(execOp a.eval o).run P w=.ok (.enter f args) w) (hc:Calls P f args w R)
 (k:∀e w',R e w'→∃v,e=.returned v∧∀a',Ag a' n ((d,v)::E) ds→wpList P ops Q rest a' w'):wpList P ops Q (o::rest) a w:=by
 refine wpList_step fun K hK=>?_;rw[if_pos hw];simp only[Oper.wp,hr,Oper.upon];refine hc.mono fun e w' h=>?_;obtain⟨v,rfl,hk⟩:=k e w' h;show K (a.put o.dst v) w';rw[dI hd];exact hK _ _ (hk _ (I.put hn v))
theorem Kt (I:Ag a n E ds)(hw:Region.wanted o (yielded ops a.tmps)=false)(hd:o.dst=some d)(hn:Nat.blt d n=true)
 (k:∀a',Ag a' n ((d,undef)::E) ds→wpList P ops Q rest a' w):wpList P ops Q (o::rest) a w:=by
 refine wpList_step fun K hK=>?_;rw[hw];simp only[Bool.false_eq_true,if_false];rw[dI hd];exact hK _ _ (k _ (I.put hn undef))
end
section
variable {P:Program} {w:World} {ρ:Operand→Value} {d:Option Tmp} {ty:TypeId} {ps:String} {af:Array Edge} {g:Option (Nat×Bool)}
theorem xV {x:Operand}{v:Value}(hx:ρ x=v):(execOp ρ ⟨d,.move x,ty,ps,af,g⟩).run P w=.ok (.value v) w:=by subst hx;rfl
theorem qQ {x:Operand}{v:Value}(hx:ρ x=v):(execOp ρ ⟨d,.assign x,ty,ps,af,g⟩).run P w=.ok (.value v) w:=by subst hx;rfl
theorem FN {c x y:Operand}{b:Bool}(hc:ρ c=.bool b):(execOp ρ ⟨d,.pick c x y,ty,ps,af,g⟩).run P w=.ok (.value (if b then ρ x else ρ y)) w:=by
 simp[execOp,hc,asBool,go_sem]
theorem E4 {c x y:Operand}{v:Value}(hc:ρ c=.bool true)(hx:ρ x=v):(execOp ρ ⟨d,.pick c x y,ty,ps,af,g⟩).run P w=.ok (.value v) w:=by rw[FN hc,hx];rfl
theorem zx {c x y:Operand}{v:Value}(hc:ρ c=.bool false)(hy:ρ y=v):(execOp ρ ⟨d,.pick c x y,ty,ps,af,g⟩).run P w=.ok (.value v) w:=by rw[FN hc,hy];rfl
theorem DX {x:Operand}{vs:Array Value}{i:Nat}{v:Value}(hx:ρ x=.tuple vs)(hi:vs[i]?=some v):(execOp ρ ⟨d,.extract x i,ty,ps,af,g⟩).run P w=.ok (.value v) w:=by
 simp[execOp,hx,Instr.extract,hi,go_sem]
theorem bc {x:Operand}{p:Addr}(hx:ρ x=.pointer (some p)):(execOp ρ ⟨d,.nilCheck x,ty,ps,af,g⟩).run P w=.ok (.value (.pointer (some p))) w:=by
 simp[execOp,hx,go_sem]
def bo (P:Program)(s f:Nat):Option (Nat×Option Nat):=
 match P.underlying s with
 | some (.struct fs)=>(fs[f]?).map fun fi=>(fi.offset,(P.info? fi.type).map (·.size))
 | _=>none
theorem aa {s f b j off z:Nat}{x:Operand}(hx:ρ x=.pointer (some ⟨b,j,none⟩))(hs:bo P s f=some (off,some (z+1))) :
 (execOp ρ ⟨d,.fieldAddr s x f,ty,ps,af,g⟩).run P w=.ok (.value (.pointer (some ⟨b,j+off,none⟩))) w:=by
 unfold bo at hs
 split at hs
 ·
  rename_i fs hu;cases hf:fs[f]? with
  | none=>rw[hf]at hs;cases hs
  | some fi =>
    rw[hf]at hs;simp only[Option.map_some,Option.some.injEq,Prod.mk.injEq]at hs;obtain⟨rfl,hz⟩:=hs;obtain⟨i,hi,hz⟩:=Option.map_eq_some_iff.1 hz;have he:(⟨b,j,none⟩:Addr).add fi.offset=⟨b,j+fi.offset,none⟩:=by unfold Addr.add;split<;>simp_all
    simp[execOp,hx,Instr.fieldAt,run_underlying hu,hf,Instr.sureAddr,fieldPlace,sizeOf,typeInfo,hi,hz,he,go_sem]
 ·
  cases hs
def flat (P:Program)(t:Nat):Bool:=match P.underlying t with | some (.struct _)=>false | some (.array _ _)=>false | some _=>true | none=>false
theorem lj {t:Nat}(h:flat P t=true)(w:World):(isAgg t).run P w=.ok false w:=by
 cases hu:P.underlying t with
 | none=>simp[flat,hu]at h
 | some u =>
   unfold isAgg;cases u<;>simp_all[flat,run_underlying hu,go_sem]
theorem an {t:Nat}{x:Operand}{p:Addr}{v:Value}(hx:ρ x=.pointer (some p))(ht:flat P t=true)(hc:w.cell? p=some v):(execOp ρ ⟨d,.load t x,ty,ps,af,g⟩).run P w=.ok (.value v) w:=by
 have h:=lj ht w;simp[execOp,hx,Instr.loadAt,Instr.sureAddr,loadVar,h,load,Sem.run,hc,go_sem]
theorem tD {t:Nat}{x y:Operand}{p:Addr}{v u:Value}(hx:ρ x=.pointer (some p))(hy:ρ y=v)(ht:flat P t=true)(h1:(P.info? t).map (·.size)=some 1)(hv:v.oneCell'=true)(hc:w.cell? p=some u)(hf:w.frozen? p=false) :
 (execOp ρ ⟨d,.store t x y,ty,ps,af,g⟩).run P w=.ok .skip (w.setCell p v):=by
 obtain⟨i,hi,hz⟩:=Option.map_eq_some_iff.1 h1;cases v<;>simp[Value.oneCell']at hv<;>simp[execOp,hx,hy,Instr.storeAt,Instr.sureAddr,storeVar,Value.cells,sizeOf,typeInfo,hi,hz,storeCells,store,Sem.run,hc,hf,go_sem,Addr.add]
end
end Go.Proofs.YtkjabaihpkbfhaaGreat.K
namespace Go.Proofs.YtkjabaihpkbfhaaGreat.K
open Go Go.RowKit
section
variable {P:Program} {w:World} {ρ:Operand→Value} {d:Option Tmp} {ty:TypeId} {ps:String} {af:Array Edge} {g:Option (Nat×Bool)}
variable {t yt:TypeId} {x y:Operand} {a b:Int} {k:IntKind}
theorem aB {c:Bool}(hx:ρ x=.bool c):(execOp ρ ⟨d,.unOp .not t x,ty,ps,af,g⟩).run P w=.ok (.value (.bool (!c))) w:=by
 simp[execOp,hx,Op.unary,go_sem]
theorem gA {k:IntKind}{n:Int}(h0:k.min≤n)(h1:n≤k.max):k.wrap n=n:=by
 cases k<;>simp[IntKind.min,IntKind.max,IntKind.wrap,IntKind.signed,IntKind.bits]at *<;>omega
theorem BG (hx:ρ x=.int k a)(hy:ρ y=.int k b):(execOp ρ ⟨d,.binOp .add t x y yt,ty,ps,af,g⟩).run P w=.ok (.value (.int k (k.wrap (a+b)))) w:=by
 simp[execOp,hx,hy,eqGuard,binOp,Op.intArith,go_sem]
theorem Hv (hx:ρ x=.int k a)(hy:ρ y=.int k b):(execOp ρ ⟨d,.binOp .sub t x y yt,ty,ps,af,g⟩).run P w=.ok (.value (.int k (k.wrap (a-b)))) w:=by
 simp[execOp,hx,hy,eqGuard,binOp,Op.intArith,go_sem]
theorem Hb (hx:ρ x=.int k a)(hy:ρ y=.int k b):(execOp ρ ⟨d,.binOp .mul t x y yt,ty,ps,af,g⟩).run P w=.ok (.value (.int k (k.wrap (a * b)))) w:=by
 simp[execOp,hx,hy,eqGuard,binOp,Op.intArith,go_sem]
theorem GD (hx:ρ x=.int k a)(hy:ρ y=.int k b)(h0:k.min≤a+b)(h1:a+b≤k.max):(execOp ρ ⟨d,.binOp .add t x y yt,ty,ps,af,g⟩).run P w=.ok (.value (.int k (a+b))) w:=by
 rw[BG hx hy,gA h0 h1]
theorem I3 (hx:ρ x=.int k a)(hy:ρ y=.int k b)(h0:k.min≤a-b)(h1:a-b≤k.max):(execOp ρ ⟨d,.binOp .sub t x y yt,ty,ps,af,g⟩).run P w=.ok (.value (.int k (a-b))) w:=by
 rw[Hv hx hy,gA h0 h1]
theorem I2 (hx:ρ x=.int k a)(hy:ρ y=.int k b)(h0:k.min≤a * b)(h1:a * b≤k.max):(execOp ρ ⟨d,.binOp .mul t x y yt,ty,ps,af,g⟩).run P w=.ok (.value (.int k (a * b))) w:=by
 rw[Hb hx hy,gA h0 h1]
theorem yb (hx:ρ x=.int .i64 a)(hy:ρ y=.int .i64 b)(h0:-9223372036854775808≤a+b)(h1:a+b≤9223372036854775807):(execOp ρ ⟨d,.binOp .add t x y yt,ty,ps,af,g⟩).run P w=.ok (.value (.int .i64 (a+b))) w:=GD hx hy (by simpa[IntKind.min,IntKind.signed,IntKind.bits]using h0) (by simpa[IntKind.max,IntKind.signed,IntKind.bits]using h1)
theorem Gh (hx:ρ x=.int .i64 a)(hy:ρ y=.int .i64 b)(h0:-9223372036854775808≤a-b)(h1:a-b≤9223372036854775807):(execOp ρ ⟨d,.binOp .sub t x y yt,ty,ps,af,g⟩).run P w=.ok (.value (.int .i64 (a-b))) w:=I3 hx hy (by simpa[IntKind.min,IntKind.signed,IntKind.bits]using h0) (by simpa[IntKind.max,IntKind.signed,IntKind.bits]using h1)
theorem l9 (hx:ρ x=.int .i64 a)(hy:ρ y=.int .i64 b)(h0:-9223372036854775808≤a * b)(h1:a * b≤9223372036854775807):(execOp ρ ⟨d,.binOp .mul t x y yt,ty,ps,af,g⟩).run P w=.ok (.value (.int .i64 (a * b))) w:=I2 hx hy (by simpa[IntKind.min,IntKind.signed,IntKind.bits]using h0) (by simpa[IntKind.max,IntKind.signed,IntKind.bits]using h1)
theorem H3 (hx:ρ x=.int k a)(hy:ρ y=.int k b)(hb:b≠0):(execOp ρ ⟨d,.binOp .quo t x y yt,ty,ps,af,g⟩).run P w=.ok (.value (.int k (k.wrap (a.tdiv b)))) w:=by
 simp[execOp,hx,hy,eqGuard,binOp,Op.intDiv,hb,go_sem]
theorem I9 (hx:ρ x=.int k a)(hy:ρ y=.int k b)(hb:b≠0):(execOp ρ ⟨d,.binOp .rem t x y yt,ty,ps,af,g⟩).run P w=.ok (.value (.int k (a.tmod b))) w:=by
 simp[execOp,hx,hy,eqGuard,binOp,Op.intDiv,hb,go_sem]
theorem aU (hx:ρ x=.int k a)(hy:ρ y=.int k b):(execOp ρ ⟨d,.binOp .eql t x y yt,ty,ps,af,g⟩).run P w=.ok (.value (.bool (decide (a=b)))) w:=by
 simp[execOp,hx,hy,eqGuard,binOp,Op.intCmp,go_sem];rw[Bool.eq_iff_iff];simp
theorem aD (hx:ρ x=.int k a)(hy:ρ y=.int k b):(execOp ρ ⟨d,.binOp .neq t x y yt,ty,ps,af,g⟩).run P w=.ok (.value (.bool (decide (a≠b)))) w:=by
 simp[execOp,hx,hy,eqGuard,binOp,Op.intCmp,go_sem];rw[Bool.eq_iff_iff];simp
theorem aq (hx:ρ x=.int k a)(hy:ρ y=.int k b):(execOp ρ ⟨d,.binOp .lss t x y yt,ty,ps,af,g⟩).run P w=.ok (.value (.bool (decide (a<b)))) w:=by
 simp[execOp,hx,hy,eqGuard,binOp,Op.intCmp,go_sem]
theorem dD (hx:ρ x=.int k a)(hy:ρ y=.int k b):(execOp ρ ⟨d,.binOp .leq t x y yt,ty,ps,af,g⟩).run P w=.ok (.value (.bool (decide (a≤b)))) w:=by
 simp[execOp,hx,hy,eqGuard,binOp,Op.intCmp,go_sem]
theorem cG (hx:ρ x=.int k a)(hy:ρ y=.int k b):(execOp ρ ⟨d,.binOp .gtr t x y yt,ty,ps,af,g⟩).run P w=.ok (.value (.bool (decide (b<a)))) w:=by
 simp[execOp,hx,hy,eqGuard,binOp,Op.intCmp,go_sem]
theorem dF (hx:ρ x=.int k a)(hy:ρ y=.int k b):(execOp ρ ⟨d,.binOp .geq t x y yt,ty,ps,af,g⟩).run P w=.ok (.value (.bool (decide (b≤a)))) w:=by
 simp[execOp,hx,hy,eqGuard,binOp,Op.intCmp,go_sem]
theorem pX (t:TypeId)(x y:Value):∃d,Op.equal t x y=Op.equalIn (d+1) t x y:=⟨9999,rfl⟩
theorem Jb {a b:Bool}(hx:ρ x=.bool a)(hy:ρ y=.bool b)(ht:P.underlying t=some .bool):(execOp ρ ⟨d,.binOp .neq t x y yt,ty,ps,af,g⟩).run P w=.ok (.value (.bool (a != b))) w:=by
 obtain⟨D,hD⟩:=pX t (.bool a) (.bool b);simp[execOp,hx,hy,eqGuard,binOp,hD,Op.equalIn,run_underlying ht,go_sem];cases a<;>cases b<;>rfl
theorem IT {a b:ByteArray}(hx:ρ x=.string a)(hy:ρ y=.string b):(execOp ρ ⟨d,.binOp .eql t x y yt,ty,ps,af,g⟩).run P w=.ok (.value (.bool (a.toList == b.toList))) w:=by
 simp[execOp,hx,hy,eqGuard,binOp,Op.stringOp,go_sem]
theorem Ie {a b:ByteArray}(hx:ρ x=.string a)(hy:ρ y=.string b):(execOp ρ ⟨d,.binOp .neq t x y yt,ty,ps,af,g⟩).run P w=.ok (.value (.bool (!(a.toList == b.toList)))) w:=by
 simp[execOp,hx,hy,eqGuard,binOp,Op.stringOp,go_sem]
theorem Bj {e:TypeId}{p:Option Addr}(hx:ρ x=.pointer p)(hy:ρ y=.pointer none)(ht:P.underlying t=some (.pointer e)):(execOp ρ ⟨d,.binOp .eql t x y yt,ty,ps,af,g⟩).run P w=.ok (.value (.bool p.isNone)) w:=by
 obtain⟨D,hD⟩:=pX t (.pointer p) (.pointer none);cases p<;>simp[execOp,hx,hy,eqGuard,binOp,hD,Op.equalIn,run_underlying ht,go_sem]
theorem AI {e:TypeId}{p:Option Addr}{n c:Nat}(hx:ρ x=.slice p n c)(hy:ρ y=.slice none 0 0)(ht:P.underlying t=some (.slice e)):(execOp ρ ⟨d,.binOp .eql t x y yt,ty,ps,af,g⟩).run P w=.ok (.value (.bool p.isNone)) w:=by
 obtain⟨D,hD⟩:=pX t (.slice p n c) (.slice none 0 0);cases p<;>simp[execOp,hx,hy,eqGuard,binOp,hD,Op.equalIn,run_underlying ht,go_sem]
theorem c5 {r:Result Next}{c:Prop}[Decidable c](h:r=.ok (.value (.bool (decide c))) w)(hc:c):r=.ok (.value (.bool true)) w:=by rw[h,decide_eq_true hc]
theorem dz {r:Result Next}{c:Prop}[Decidable c](h:r=.ok (.value (.bool (decide c))) w)(hc:¬c):r=.ok (.value (.bool false)) w:=by rw[h,decide_eq_false hc]
theorem aw {r:Result Next}{u v:Value}(h:r=.ok (.value u) w)(e:u=v):r=.ok (.value v) w:=by rw[h,e]
theorem ak {e:TypeId}{p:Option Addr}{n c:Nat}(hx:ρ x=.slice p n c)(ht:P.underlying t=some (.slice e)):(execOp ρ ⟨d,.call { callee:=.builtin .len,args:=#[x],argTypes:=#[t] },ty,ps,af,g⟩).run P w=.ok (.value (.int .i64 (n:Int))) w:=by
 simp[execOp,resolve,hx,invoke,builtin,Builtin.len_,run_underlying ht,goInt,go_sem]
theorem iW {s:ByteArray}(hx:ρ x=.string s)(ht:P.underlying t=some .string):(execOp ρ ⟨d,.call { callee:=.builtin .len,args:=#[x],argTypes:=#[t] },ty,ps,af,g⟩).run P w=.ok (.value (.int .i64 (s.size:Int))) w:=by
 simp[execOp,resolve,hx,invoke,builtin,Builtin.len_,run_underlying ht,goInt,go_sem]
theorem yy {tt:Array TypeId}(hx:ρ x=.int k a)(hy:ρ y=.int k b):(execOp ρ ⟨d,.call { callee:=.builtin .min,args:=#[x,y],argTypes:=tt },ty,ps,af,g⟩).run P w=.ok (.value (.int k (min a b))) w:=by
 have h:(if b<a then b else a)=min a b:=by omega
 simp[execOp,resolve,hx,hy,invoke,builtin,Builtin.min_,Builtin.min2,go_sem,h]
theorem uL {tt:Array TypeId}(hx:ρ x=.int k a)(hy:ρ y=.int k b):(execOp ρ ⟨d,.call { callee:=.builtin .max,args:=#[x,y],argTypes:=tt },ty,ps,af,g⟩).run P w=.ok (.value (.int k (max a b))) w:=by
 have h:(if a<b then b else a)=max a b:=by omega
 simp[execOp,resolve,hx,hy,invoke,builtin,Builtin.max_,Builtin.max2,go_sem,h]
theorem ib {e:TypeId}{p:Addr}{n c z:Nat}{i:Int}(hx:ρ x=.slice (some p) n c)(hy:ρ y=.int k i)(ht:P.underlying t=some (.slice e))(hz:(P.info? e).map (·.size)=some z)(h0:0≤i)(h1:i<n) :
 (execOp ρ ⟨d,.indexAddr t x y,ty,ps,af,g⟩).run P w=.ok (.value (.pointer (some (p.add (i.toNat * z))))) w:=by
 obtain⟨j,hj,hjz⟩:=Option.map_eq_some_iff.1 hz;simp[execOp,hx,hy,Instr.indexAt,run_underlying ht,asIntOf,sizeOf,typeInfo,hj,hjz,h0,h1,go_sem]
theorem HW {e:TypeId}{v:Value}(hx:ρ x=v):(execOp ρ ⟨d,.box e x,ty,ps,af,g⟩).run P w=.ok (.value (.pointer (some ⟨w.heap.size,0,none⟩))) (w.alloc (.cells v.cells e)):=by
 simp[execOp,hx,Instr.box,newVar,newRow,newObj,Sem.run,go_sem]
theorem BW {e:TypeId}{v:Value}(hz:(P.info? e).bind (·.zero)=some v):(execOp ρ ⟨d,.alloc e,ty,ps,af,g⟩).run P w=.ok (.value (.pointer (some ⟨w.heap.size,0,none⟩))) (w.alloc (.cells v.cells e)):=by
 cases hi:P.info? e with
 | none=>simp[hi]at hz
 | some i=>simp[hi]at hz;simp[execOp,Instr.alloc,zeroValue,typeInfo,hi,hz,newVar,newRow,newObj,Sem.run,go_sem]
end
def Rd (w:World)(sz:Nat)(v:Value)(n:Nat)(cs:List Value):Prop:=
 ∃A c,v=.slice A n c∧n≤c∧cs.length=n * sz∧(n=0∨∃p,A=some p∧∀j u,cs[j]?=some u→w.cell? (p.add j)=some u)
def lM (fr:Nat×Nat)(m:Nat):Prop:=fr=(0,0)∨m≤fr.1
theorem lM.zero (m:Nat):lM (0,0) m:=.inl rfl
theorem Sat.yh {W w:World}{L:List As}{b j m:Nat}{cs:Array Value}{t:TypeId}{fr:Nat×Nat}(s:Sat W w (a6 b (.cells cs t fr)::L))(hf:lM fr m)(hj:j<m):w.frozen? ⟨b,j,none⟩=false:=by
 rcases hf with rfl | h
 ·
  exact s.free
 ·
  obtain⟨lo,hi⟩:=fr;have h:m≤lo:=h;simp[World.frozen?,s.block.1];omega
def row (e sz:Nat)(v:Value)(n:Nat)(cs:List Value):As:=fun h=>
 (v=.slice none 0 0∧n=0∧cs=[])∨
 (∃b cap sp fr,v=.slice (some ⟨b,0,none⟩) n cap∧n≤cap∧cap≤9223372036854775807∧cs.length=n * sz∧(cs++sp).length=cap * sz∧lM fr (cap * sz)∧h b=some (.cells (cs++sp).toArray e fr))
theorem add_lit (b j i:Nat):(⟨b,j,none⟩:Addr).add i=⟨b,j+i,none⟩:=by unfold Addr.add;split<;>simp_all
theorem add_add (p:Addr)(i j:Nat):(p.add i).add j=p.add (i+j):=by
 unfold Addr.add
 by_cases hi:i=0
 ·
  subst hi;simp
 ·
  by_cases hj:j=0
  ·
   subst hj;simp[hi]
  ·
   simp[hi,hj,Nat.add_assoc]
section
variable {W w:World} {e sz n:Nat} {v:Value} {cs:List Value} {L:List As}
theorem Rd.below {w':World}(h:Rd w sz v n cs)(hb:∀p u,w.cell? p=some u→w'.cell? p=some u):Rd w' sz v n cs:=by
 obtain⟨A,c,hv,hc,hl,h⟩:=h;refine⟨A,c,hv,hc,hl,h.imp id ?_⟩;rintro ⟨p,hp,hh⟩;exact⟨p,hp,fun j u e=>hb _ _ (hh j u e)⟩
theorem Rd.sat (h:Rd W sz v n cs)(s:Sat W w L):Rd w sz v n cs:=
 h.below fun p u e=>by rw[s.below.cell (World.block_lt_of_cell? _ _ e)];exact e
theorem Sat.rd (s:Sat W w (row e sz v n cs::L)):Rd w sz v n cs:=by
 obtain⟨_,h,⟨h1,h2,a,s1,s2,x,z⟩,t⟩:=s;rcases x with ⟨rfl,rfl,rfl⟩ | ⟨b,cap,sp,fr,rfl,hn,hcap,hl,hl2,hfr,hb⟩
 ·
  exact⟨none,0,rfl,Nat.le_refl _,by simp,.inl rfl⟩
 ·
  refine⟨_,cap,rfl,hn,hl,.inr ⟨_,rfl,fun j u e=>?_⟩⟩;have:=(t b _ (s1 _ _ hb)).2;rw[add_lit];simp only[World.cell?,this];have hj:j<cs.length:=(List.getElem?_eq_some_iff.1 e).1;simp[List.getElem?_append_left hj,e]
theorem Rd.len (h:Rd w sz v n cs):cs.length=n * sz:=let ⟨_,_,_,_,hl,_⟩:=h;hl
theorem Rd.form (h:Rd w sz v n cs):∃A c,v=.slice A n c∧n≤c:=let ⟨A,c,hv,hc,_⟩:=h;⟨A,c,hv,hc⟩
theorem Rd.place (h:Rd w sz v n cs)(h0:0<n):∃p c,v=.slice (some p) n c∧n≤c∧∀j u,cs[j]?=some u→w.cell? (p.add j)=some u:=by
 obtain⟨A,c,hv,hc,hl,h | ⟨p,rfl,hh⟩⟩:=h
 ·
  omega
 ·
  exact⟨p,c,hv,hc,hh⟩
theorem Sat.ba (s:Sat W w L)(e sz:Nat):Sat W w (row e sz (.slice none 0 0) 0 []::L):=
 ⟨s.below,let ⟨h,x,y⟩:=s.own;⟨h,⟨fun _=>none,h,fun _=>.inl rfl,fun _ _ e=>(by cases e),Sub.refl h,Or.inl ⟨rfl,rfl,rfl⟩,x⟩,y⟩⟩
theorem Sat.BR (s:Sat W w L)(e sz n:Nat)(cells:Array Value)(hs:cells.size=n * sz)(hn:n≤9223372036854775807) :
 Sat W (w.alloc (.cells cells e)) (row e sz (.slice (some ⟨w.heap.size,0,none⟩) n n) n cells.toList::L):=
 (s.alloc (.cells cells e)).imp fun h hh=>.inr ⟨w.heap.size,n,[],(0,0),rfl,Nat.le_refl _,hn,by simpa using hs,by simpa using hs,lM.zero _,by rw[show h w.heap.size=_ from hh];simp⟩
theorem Sat.setCells {b:Nat}{t:TypeId}{fr:Nat×Nat}(news:List Value):∀ {w:World} (o:Nat) (olds rest:List Value),olds.length=o→news.length≤rest.length→Sat W w (a6 b (.cells (olds++rest).toArray t fr)::L)→
 Sat W (w.setCells b o news) (a6 b (.cells (olds++news++rest.drop news.length).toArray t fr)::L):=by
 induction news with
 | nil=>intro w o olds rest _ _ s;simpa[World.setCells]using s
 | cons u r ih =>
   intro w o olds rest ho hl s;cases rest with
   | nil=>simp at hl
   | cons x rest =>
     have s1:=s.store (j:=o) u
     have he:(olds++x::rest).toArray.setIfInBounds o u=(olds++[u]++rest).toArray:=by
      rw[List.setIfInBounds_toArray]
      congr 1
      rw[List.set_append_right _ _ (by omega),ho];simp
     rw[he]at s1;have:=ih (o+1) (olds++[u]) rest (by simp;omega) (by simpa using hl) s1;simpa[World.setCells]using this
end
section
variable {P:Program} {W w:World} {ρ:Operand→Value} {d:Option Tmp} {ty t tx e:TypeId} {ps:String} {af:Array Edge} {g:Option (Nat×Bool)} {x y:Operand}
variable {sz n k:Nat} {v u:Value} {cs ns:List Value} {L:List As}
theorem Rd.src {e':TypeId}(h:Rd w sz u k ns)(ht:P.underlying tx=some (.slice e'))(h1:∀z∈ns,z.oneCell'=true):Src P sz tx u k ns w:=by
 obtain⟨A,c,rfl,hc,hl,h | ⟨p,rfl,hh⟩⟩:=h
 ·
  subst h;obtain rfl:ns=[]:=List.eq_nil_of_length_eq_zero (by simpa using hl);cases A with
  | none=>exact Src.ofNil w ht c
  | some p=>exact Src.ofSlice w ht p 0 c [] (by simp) (fun j z e=>by simp at e) (fun _ h=>by cases h)
 ·
  exact Src.ofSlice w ht p k c ns hl hh h1
theorem grownCap_le (w:World)(need old:Nat)(e:TypeId)(h:need<9223372036854775808):need≤grownCap w need old e∧grownCap w need old e≤9223372036854775807:=by
 unfold grownCap;simp only[Question.cut];have:=Nat.mod_lt (w.tape w.drawn (.appendCap need old e)) (show 0<2 ^ 63-need by omega);omega
theorem lb (z:Array Value)(m:Nat):(Builtin.zeroCells z m).size=m * z.size:=by simp[Builtin.zeroCells]
theorem AV (i:TypeInfo)(z:Value)(ht:P.underlying t=some (.slice e))(hi:P.info? e=some i)(hz:i.zero=some z)(hzs:z.cells.size=sz)(hsz:i.size=sz)
 (s:Sat W w (row e sz v n cs::L)) (hs:Src P sz tx u k ns w) (hn:(n+k) * i.bytes≤140737488355328) (hn2:n+k≤140737488355328) :
 ∃v' w',(Builtin.append_ #[t,tx] ty #[v,u]).run P w=.ok v' w'∧Sat W w' (row e sz v' (n+k) (cs++ns)::L):=by
 obtain⟨bl,h,⟨h1,h2,a,s1,s2,q,r⟩,t'⟩:=s;have hnl:=hs.newsLen;subst hsz;rcases q with ⟨rfl,rfl,rfl⟩ | ⟨b,cap,sp,fr,rfl,hnc,hcap,hl,hl2,hfr,hb⟩
 ·
  have S0:Sat W w L:=⟨bl,h2,r,fun b o e=>t' b o (s2 _ _ e)⟩
  by_cases hk:k=0
  ·
   subst hk;obtain rfl:ns=[]:=List.eq_nil_of_length_eq_zero (by simpa using hnl);refine⟨_,w,run_append_nothing w t tx ty e i ht hi none 0 0 (Nat.le_refl _) u hs,?_⟩;simpa using S0.ba e i.size
  ·
   refine⟨_,_,run_append_grow_src w t tx ty e i z ht hi hz none 0 0 [] (run_firstCells_none _ _ _ _ _) u k ns hs (by omega) (by omega) (growslice_fits (by omega) hn),?_⟩;have hc:=grownCap_le w (0+k) 0 e (by omega);refine (S0.drew.alloc _).imp fun h hh=>.inr ⟨w.heap.size,grownCap w (0+k) 0 e,(Builtin.zeroCells z.cells (grownCap w (0+k) 0 e-(0+k))).toList,(0,0),rfl,hc.1,hc.2,by simp[hnl],?_,lM.zero _,?_⟩
   ·
    generalize grownCap w (0+k) 0 e=q at hc
    simp only[List.nil_append,List.length_append,Array.length_toList,lb,hzs,hnl];rw[←Nat.add_mul];congr 1;omega
   ·
    rw[show h w.heap.size=_ from hh]
    congr 2
    apply Array.ext';simp
 ·
  have S:Sat W w (a6 b (.cells (cs++sp).toArray e fr)::L):=⟨bl,h,⟨h1,h2,a,s1,s2,hb,r⟩,t'⟩;have hcell:∀j u,(cs++sp)[j]?=some u→w.cell? ⟨b,j,none⟩=some u:=fun j u e=>S.pJ (by simpa using e)
  by_cases hroom:n+k≤cap
  ·
   have hle:ns.length≤sp.length:=by
    have:(n+k) * i.size≤cap * i.size:=Nat.mul_le_mul_right _ hroom;rw[Nat.add_mul]at this;simp at hl2;omega
   refine⟨_,_,run_append_room_src w t tx ty e i ht hi b 0 n cap u k ns hs hroom (fun j hj=>?_) (fun j hj=>S.yh hfr (by have:(n+k) * i.size≤cap * i.size:=Nat.mul_le_mul_right _ hroom;rw[Nat.add_mul]at this;omega)),?_⟩
   ·
    have:0+n * i.size+j<(cs++sp).length:=by simp;omega
    rw[hcell _ _ (List.getElem?_eq_getElem this)];rfl
   ·
    have S2:=Sat.setCells ns (w:=w) (b:=b) (t:=e) (0+n * i.size) cs sp (by omega) hle S;refine S2.imp fun h hh=>.inr ⟨b,cap,sp.drop ns.length,fr,rfl,hroom,hcap,?_,?_,hfr,hh⟩
    ·
     simp[hl,hnl,Nat.add_mul]
    ·
     simp at hl2 ⊢;omega
  ·
   refine⟨_,_,run_append_grow_src w t tx ty e i z ht hi hz (some ⟨b,0,none⟩) n cap cs ?_ u k ns hs (by omega) (by omega) (growslice_fits (by omega) hn),?_⟩
   ·
    refine run_firstCells_some w.drew i.size n ⟨b,0,none⟩ n cap cs hl fun j u e=>?_;rw[add_lit,Nat.zero_add];exact hcell j u (by rw[List.getElem?_append_left (List.getElem?_eq_some_iff.1 e).1];exact e)
   ·
    have hc:=grownCap_le w (n+k) cap e (by omega);have S0:Sat W w L:=S.drop;refine (S0.drew.alloc _).imp fun h hh=>.inr ⟨w.heap.size,grownCap w (n+k) cap e,(Builtin.zeroCells z.cells (grownCap w (n+k) cap e-(n+k))).toList,(0,0),rfl,hc.1,hc.2,by simp[hl,hnl,Nat.add_mul],?_,lM.zero _,?_⟩
    ·
     simp only[List.length_append,Array.length_toList,lb,hzs,hnl,hl];rw[←Nat.add_mul,←Nat.add_mul];congr 1;omega
    ·
     rw[show h w.heap.size=_ from hh]
     congr 2
     apply Array.ext';simp
end
end Go.Proofs.YtkjabaihpkbfhaaGreat.K
namespace Go.Proofs.YtkjabaihpkbfhaaGreat.K
open Go Go.RowKit
variable {ds:List Deferred}
def rH (E:Env):Env→Prop
 | []=>True
 | p::E'=>find p.1 E=some p.2∧rH E E'
theorem rH.nil {E:Env}:rH E []:=trivial
theorem rH.cons {E:Env}{i:Nat}{v:Value}{E':Env}(h:find i E=some v)(r:rH E E'):rH E ((i,v)::E'):=⟨h,r⟩
theorem Ag.xY {a:Act}{n:Nat}{E E':Env}(h:Ag a n E ds)(k:rH E E'):Ag a n E' ds:=
 h.forget (by
  induction E' with
  | nil=>intro p hp;cases hp
  | cons q E' ih =>
    intro p hp;cases hp with
    | head=>exact k.1
    | tail _ hp=>exact ih k.2 p hp)
def Holds (args:List Value):Env→Prop
 | []=>True
 | p::E'=>nth args p.1=some p.2∧Holds args E'
theorem Holds.nil {args:List Value}:Holds args []:=trivial
theorem Holds.cons {args:List Value}{i:Nat}{v:Value}{E':Env}(h:nth args i=some v)(r:Holds args E'):Holds args ((i,v)::E'):=⟨h,r⟩
section
variable {P:Program} {Q:Exit→Act→World→Prop} {K:Act→World→Prop} {a:Act} {n:Nat} {E:Env} {w w':World} {R:Ending→World→Prop} {fn:Func}
theorem enter {f:FuncId}{c:Code}{args:List Value}(hf:P.funcs[f]?=some fn)(hb:fn.body=some c)(hn:fn.ntmps=n)(hs:Nat.ble args.length n=true)(hE:Holds args E)
 (k:∀a,Ag a n E→c.wp P (bodyPost P fn R) a w):Calls P f args.toArray w R:=by
 subst hn;refine calls_of_wp hf hb (k _ (Ag.enter args.toArray _ (by simpa using Nat.le_of_ble_eq_true hs) ?_));clear k hs
 induction E with
 | nil=>intro p hp;cases hp
 | cons q E' ih =>
   intro p hp;cases hp with
   | head=>have h:=hE.1;rw[mj]at h;simpa using h
   | tail _ hp=>exact ih hE.2 p hp
theorem uo {c:List PanicEntry}(h:Q (.panic c) a w):Exit.then K Q (.panic c) a w:=h
theorem Ec {i:Nat}(h:Q .normal a w):Exit.inBlock i Q (.exit i) a w:=by simpa[Exit.inBlock]using h
theorem Bh {i j:Nat}(hn:Nat.beq j i=false)(h:Q (.exit j) a w):Exit.inBlock i Q (.exit j) a w:=by
 have:¬j=i:=fun e=>by subst e;rw[Nat.beq_refl]at hn;cases hn
 simpa[Exit.inBlock,this]using h
theorem mR (I:Ag a n E)(hr:fn.results=#[])(h:R (.returned (.tuple #[])) w):bodyPost P fn R .ret a w:=
 ⟨I.defers,.tuple #[],by simp[results,hr,go_sem],h⟩
theorem EC {t:Nat}{v:Value}(I:Ag a n E)(hr:fn.results=#[.tmp t])(hv:find t E=some v)(h:R (.returned v) w):bodyPost P fn R .ret a w:=
 ⟨I.defers,v,by have:=I.at_ t v hv;simp[results,hr,go_sem,Array.getD_eq_getD_getElem?,this],h⟩
theorem Gv {t u:Nat}{v x:Value}(I:Ag a n E)(hr:fn.results=#[.tmp t,.tmp u])(hv:find t E=some v)(hx:find u E=some x)(h:R (.returned (.tuple #[v,x])) w):bodyPost P fn R .ret a w:=
 ⟨I.defers,.tuple #[v,x],by have h1:=I.at_ t v hv;have h2:=I.at_ u x hx;simp[results,hr,go_sem,Array.getD_eq_getD_getElem?,h1,h2],h⟩
theorem wA {t u s:Nat}{v x y:Value}(I:Ag a n E)(hr:fn.results=#[.tmp t,.tmp u,.tmp s])(hv:find t E=some v)(hx:find u E=some x)(hy:find s E=some y)(h:R (.returned (.tuple #[v,x,y])) w):bodyPost P fn R .ret a w:=
 ⟨I.defers,.tuple #[v,x,y],by have h1:=I.at_ t v hv;have h2:=I.at_ u x hx;have h3:=I.at_ s y hy;simp[results,hr,go_sem,Array.getD_eq_getD_getElem?,h1,h2,h3],h⟩
theorem jm {e:Exit}(h:bodyPost P fn R .ret a w):bodyPost P fn R .normal a w:=h
variable {ops:Array Oper} {rest:List Oper} {o:Oper} {d:Nat} {c:Prop} [Decidable c]
theorem Je (I:Ag a n E ds)(hw:Region.wanted o (yielded ops a.tmps)=true)(hd:o.dst=some d)(hn:Nat.blt d n=true)(hr:(execOp a.eval o).run P w=.ok (.value (.bool (decide c))) w')
 (kt:c→∀a',Ag a' n ((d,.bool true)::E) ds→wpList P ops Q rest a' w') (kf:¬c→∀a',Ag a' n ((d,.bool false)::E) ds→wpList P ops Q rest a' w'):wpList P ops Q (o::rest) a w:=by
 by_cases h:c
 ·
  exact Dc I hw hd hn (c5 hr h) (kt h)
 ·
  exact Dc I hw hd hn (dz hr h) (kf h)
theorem IH (I:Ag a n E ds)(hw:Region.wanted o (yielded ops a.tmps)=true)(hd:o.dst=some d)(hn:Nat.blt d n=true){b:Bool}(hr:(execOp a.eval o).run P w=.ok (.value (.bool b)) w')
 (kt:b=true→∀a',Ag a' n ((d,.bool true)::E) ds→wpList P ops Q rest a' w') (kf:b=false→∀a',Ag a' n ((d,.bool false)::E) ds→wpList P ops Q rest a' w'):wpList P ops Q (o::rest) a w:=by
 cases b with
 | true=>exact Dc I hw hd hn hr (kt rfl)
 | false=>exact Dc I hw hd hn hr (kf rfl)
def enters (P:Program)(f:Nat):Bool:=match P.funcs[f]? with | some fn=>!(fn.name == "runtime.NumGoroutine") && fn.body.isSome | none=>false
variable {ρ:Operand→Value} {dd:Option Tmp} {ty:TypeId} {ps:String} {af:Array Edge} {g:Option (Nat×Bool)}
theorem kB {f:Nat}{args:Array Value}(h:enters P f=true):(callFunc f args).run P w=.ok (.enter f args) w:=by
 unfold enters at h;cases hf:P.funcs[f]? with
 | none=>rw[hf]at h;cases h
 | some fn =>
   rw[hf]at h;simp only[Bool.and_eq_true,Bool.not_eq_true']at h;have hn:¬fn.name= "runtime.NumGoroutine":=fun e=>by rw[e]at h;simp at h
   have hb:¬fn.body=none:=fun e=>by rw[e]at h;simp at h
   simp[callFunc,hf,hn,hb,go_sem]
theorem Hw {f:Nat}{args:Array Operand}{tys:Array TypeId}{vs:Array Value}(hf:enters P f=true)(hq:ρ (.func f)=.func (.func f) #[] #[])(hv:args.map ρ=vs) :
 (execOp ρ ⟨dd,.call { callee:=.value (.func f),args:=args,argTypes:=tys },ty,ps,af,g⟩).run P w=.ok (.enter f vs) w:=by
 have h:=kB (w:=w) (args:=vs) hf;simp[execOp,resolve,hv,hq,Deferred.ofValue,invoke,h,go_sem]
end
end Go.Proofs.YtkjabaihpkbfhaaGreat.K
namespace Go.Proofs.YtkjabaihpkbfhaaGreat.K
open Go Go.RowKit
variable {ds:List Deferred}
def mW (E:Env):List Operand→Option (List Value)
 | []=>some []
 | x :: l => match fE E x with
   | some v => match mW E l with
     | some vs=>some (v::vs)
     | none=>none
   | none=>none
theorem Ag.mW {a:Act}{n:Nat}{E:Env}(h:Ag a n E ds):∀ {l:List Operand} {vs:List Value},mW E l=some vs→l.map a.eval=vs
 | [],vs,e=>by simp[K.mW]at e;subst e;rfl
 | x :: l, vs, e => by
   unfold K.mW at e;cases hx:fE E x with
   | none=>rw[hx]at e;cases e
   | some v =>
     rw[hx]at e;cases hl:K.mW E l with
     | none=>rw[hl]at e;cases e
     | some us =>
       rw[hl]at e;simp only[Option.some.injEq]at e;subst e;simp[h.ev hx,h.mW hl]
section
variable {P:Program} {ops:Array Oper} {Q:Exit→Act→World→Prop} {a:Act} {n:Nat} {E:Env} {w w' W:World} {rest:List Oper} {d:Nat}
variable {ty t tx e:TypeId} {ps:String} {af:Array Edge} {g:Option (Nat×Bool)} {x y:Operand} {L:List As} {dd:Option Tmp}
theorem px (I:Ag a n E ds){f:Nat}{l:List Operand}{tys:Array TypeId}{vs:List Value}(hf:enters P f=true)(hv:mW E l=some vs) :
 (execOp a.eval ⟨dd,.call { callee:=.value (.func f),args:=l.toArray,argTypes:=tys },ty,ps,af,g⟩).run P w=.ok (.enter f vs.toArray) w:=
 Hw hf rfl (by simp[I.mW hv])
theorem Ht (I:Ag a n E ds){f:Nat}{l:List Operand}{tys:Array TypeId}{vs:List Value}{R:Ending→World→Prop}(hn:Nat.blt d n=true)(hf:enters P f=true)(hv:mW E l=some vs)(hc:Calls P f vs.toArray w R)
 (k:∀e w',R e w'→∃v,e=.returned v∧∀a',Ag a' n ((d,v)::E) ds→wpList P ops Q rest a' w') :
 wpList P ops Q (⟨some d,.call { callee:=.value (.func f),args:=l.toArray,argTypes:=tys },ty,ps,af,none⟩::rest) a w:=
 Kw I rfl rfl hn (px I hf hv) hc k
theorem I7 (I:Ag a n E ds){f:Nat}{l:List Operand}{tys:Array TypeId}{vs:List Value}{R:Ending→World→Prop}(hw:Region.wanted ⟨some d,.call { callee:=.value (.func f),args:=l.toArray,argTypes:=tys },ty,ps,af,g⟩ (yielded ops a.tmps)=true)(hn:Nat.blt d n=true)(hf:enters P f=true)(hv:mW E l=some vs)(hc:Calls P f vs.toArray w R)
 (k:∀e w',R e w'→∃v,e=.returned v∧∀a',Ag a' n ((d,v)::E) ds→wpList P ops Q rest a' w') :
 wpList P ops Q (⟨some d,.call { callee:=.value (.func f),args:=l.toArray,argTypes:=tys },ty,ps,af,g⟩::rest) a w:=
 J4 I hw rfl hn (px I hf hv) hc k
def dX (P:Program)(e:Nat):Option (Option Value×Nat×Nat):=(P.info? e).map fun i=>(i.zero,i.size,i.bytes)
theorem An {ρ:Operand→Value}{c m:Nat}{v u:Value}{cs ns:List Value}{z:Value}{sz by_:Nat}(hs:ρ x=v)(hu:ρ y=u)(ht:P.underlying t=some (.slice e))(hi:dX P e=some (some z,sz,by_))(hzs:z.cells.size=sz)
 (s:Sat W w (row e sz v c cs::L)) (src:Src P sz tx u m ns w) (h1:(c+m) * by_≤140737488355328) (h2:c+m≤140737488355328) :
 ∃v' w',(execOp ρ ⟨dd,.call { callee:=.builtin .append,args:=[x,y].toArray,argTypes:=[t,tx].toArray },ty,ps,af,g⟩).run P w=.ok (.value v') w'∧Sat W w' (row e sz v' (c+m) (cs++ns)::L):=by
 obtain⟨i,hi',hq⟩:=Option.map_eq_some_iff.1 hi;simp only[Prod.mk.injEq]at hq;obtain⟨hz,hsz,hb⟩:=hq;subst hb;obtain⟨v',w',hr,S⟩:=AV (ty:=ty) i z ht hi' hz hzs hsz s src h1 h2;refine⟨v',w',?_,S⟩;have hr':Sem.run P (Builtin.append_ #[t,tx] ty #[v,u]) w=.ok v' w':=hr
 have he:execOp ρ ⟨dd,.call { callee:=.builtin .append,args:=[x,y].toArray,argTypes:=[t,tx].toArray },ty,ps,af,g⟩=(Builtin.append_ #[t,tx] ty #[v,u]).bind fun r=>Sem.pure (Next.value r):=by
  have hm:(#[x,y]:Array Operand).map ρ=#[v,u]:=by simp[hs,hu]
  show (resolve ρ { callee:=.builtin .append,args:=#[x,y],argTypes:=#[t,tx] } ty).bind (fun d=>invoke d.target d.args)=_;unfold resolve;simp only[hm]
  rfl
 rw[he,Sem.run_bind',hr']
 rfl
theorem Ks {c m:Nat}{v u:Value}{cs ns:List Value}{z:Value}{sz by_:Nat}(I:Ag a n E ds)(hn:Nat.blt d n=true)(hs:fE E x=some v)(hu:fE E y=some u)(ht:P.underlying t=some (.slice e))(hi:dX P e=some (some z,sz,by_))(hzs:z.cells.size=sz)
 (s:Sat W w (row e sz v c cs::L)) (src:Src P sz tx u m ns w) (h1:(c+m) * by_≤140737488355328) (h2:c+m≤140737488355328)
 (k:∀v' w',Sat W w' (row e sz v' (c+m) (cs++ns)::L)→∀a',Ag a' n ((d,v')::E) ds→wpList P ops Q rest a' w') :
 wpList P ops Q (⟨some d,.call { callee:=.builtin .append,args:=[x,y].toArray,argTypes:=[t,tx].toArray },ty,ps,af,none⟩::rest) a w:=by
 obtain⟨v',w',hr,S⟩:=An (dd:=some d) (ty:=ty) (ps:=ps) (af:=af) (g:=none) (I.ev hs) (I.ev hu) ht hi hzs s src h1 h2;exact yI I rfl rfl hn hr (k v' w' S)
def lits (E:Env):Nat→List (Nat×Operand)→Option (List Value)
 | _,[]=>some []
 | i, (j, x) :: l => bif Nat.beq i j then (match fE E x with
   | some v => match lits E (i + 1) l with
     | some vs=>some (v::vs)
     | none=>none
   | none=>none) else none
theorem rP {E:Env}:∀ {l:List (Nat×Operand)} {i:Nat} {vs:List Value},lits E i l=some vs→mW E (l.map (·.2))=some vs∧l.map (·.1)=List.range' i l.length∧l.length=vs.length
 | [],i,vs,h=>by simp[lits]at h;subst h;simp[K.mW]
 | (j, x) :: l, i, vs, h => by
   unfold lits at h;cases hb:Nat.beq i j with
   | false=>rw[hb]at h;cases h
   | true =>
     have:=Nat.eq_of_beq_eq_true hb;subst this;rw[hb]at h;simp only[cond_true]at h;cases hx:fE E x with
     | none=>rw[hx]at h;cases h
     | some v =>
       rw[hx]at h;cases hl:lits E (i+1) l with
       | none=>rw[hl]at h;cases h
       | some us =>
         rw[hl]at h;simp only[Option.some.injEq]at h;subst h;obtain⟨h1,h2,h3⟩:=rP hl;refine⟨by simp[K.mW,hx,h1],by simp[h2,List.range'_succ],by simp[h3]⟩
theorem EV (vs:List Value)(h1:∀v∈vs,v.oneCell'=true):∀(i:Nat) (done rest:List Value),done.length=i→rest.length=vs.length→
 Instr.fill (fun i=>some (i * 1,1)) (done++rest).toArray ((List.range' i vs.length).zip vs)=some (done++vs).toArray:=by
 induction vs with
 | nil=>intro i done rest hi hr;obtain rfl:rest=[]:=List.eq_nil_of_length_eq_zero hr;simp[Instr.fill]
 | cons v vs ih =>
   intro i done rest hi hr;cases rest with
   | nil=>simp at hr
   | cons u rest =>
     have hv:=h1 v (by simp);have hc:v.cells=#[v]:=by cases v<;>simp_all[Value.oneCell',Value.cells]
     simp only[List.length_cons,List.range'_succ,List.zip_cons_cons,Instr.fill,hc];have hlt:¬(i * 1+1 > (done++u::rest).length):=by simp;omega
     simp only[List.size_toArray,List.length_cons,List.length_nil];rw[if_neg (by simp;omega)]
     have he:((#[v].zipIdx).foldl (fun (cs:Array Value) (x:Value×Nat)=>cs.setIfInBounds (i * 1+x.2) x.1) (done++u::rest).toArray)=((done++[v])++rest).toArray:=by
      simp[List.set_append_right _ _ (show done.length≤i by omega),hi]
     have:=ih (fun x hx=>h1 x (List.mem_cons_of_mem _ hx)) (i+1) (done++[v]) rest (by simp;omega) (by simpa using hr);rw[List.append_assoc done [v] vs]at this;rw[show (done++v::vs)=done++([v]++vs) from by simp];refine Eq.trans ?_ this
     congr 1
theorem vJ {l:List (Nat×Operand)}{vs:List Value}{z:Value}{by_ len:Nat}{ρ:Operand→Value}(ht:P.underlying t=some (.slice e))(hi:dX P e=some (some z,1,by_))(hzs:z.cells.size=1)
 (hl:l.map (·.1)=List.range' 0 vs.length) (hv:l.map (fun p=>ρ p.2)=vs) (hn:len=vs.length) (hsm:len≤16777216) (h1:∀v∈vs,v.oneCell'=true) :
 (execOp ρ ⟨dd,.buildSlice t len l.toArray,ty,ps,af,g⟩).run P w=.ok (.value (.slice (some ⟨w.heap.size,0,none⟩) len len)) (w.alloc (.cells vs.toArray e)):=by
 obtain⟨i,hi',hq⟩:=Option.map_eq_some_iff.1 hi;simp only[Prod.mk.injEq]at hq;obtain⟨hz,hsz,hb⟩:=hq;subst hn
 have hp:(l.map fun x=>(x.1,ρ x.2))=(List.range' 0 vs.length).zip vs:=by
  rw[←hl,←hv];clear hl hv h1 hsm
  induction l with
  | nil=>rfl
  | cons x l ih=>simp[ih]
 have hf:∀arr:Array Value,arr.size=vs.length→Instr.fill (fun i=>some (i * 1,1)) arr ((List.range' 0 vs.length).zip vs)=some vs.toArray:=fun arr ha=>by
  have:=EV vs h1 0 [] arr.toList rfl (by simpa using ha);simpa using this
 have hlen:¬(vs.length * 1 > 2 ^ 24):=by omega
 have hfin:(Instr.buildSlice t vs.length ((List.range' 0 vs.length).zip vs).toArray).run P w=.ok (.slice (some ⟨w.heap.size,0,none⟩) vs.length vs.length) (w.alloc (.cells vs.toArray e)):=by
  cases vs with
  | nil=>simp[Instr.buildSlice,run_underlying ht,sizeOf,typeInfo,hi',hsz,Instr.fill,newRow,newObj,Sem.run,go_sem]
  | cons v vs =>
    have h0:¬((v::vs).length * 1=0):=by simp
    have hf':=hf ((Array.range ((v::vs).length * 1)).map fun i=>z.cells[i % z.cells.size]!) (by simp)
    generalize hxs:((List.range' 0 (v::vs).length).zip (v::vs))=xs at hf'
    generalize hN:(v::vs).length=N at *
    have hN0:¬(N * 1=0):=h0;have hN1:¬(N=0):=by omega
    have hN2:¬(16777216<N):=by omega
    simp[Instr.buildSlice,run_underlying ht,sizeOf,typeInfo,zeroValue,hi',hsz,hz,hN1,hN2,newRow,newObj,Sem.run,go_sem];simp only[Value.cells,Nat.mul_one]at hf';rw[hf'];simp[Sem.run,go_sem]
 have he:(execOp ρ ⟨dd,.buildSlice t vs.length l.toArray,ty,ps,af,g⟩)=(Instr.buildSlice t vs.length ((List.range' 0 vs.length).zip vs).toArray).bind fun r=>Sem.pure (Next.value r):=by
  have hm:(l.toArray.map fun (p:Nat×Operand)=>(p.1,ρ p.2))=((List.range' 0 vs.length).zip vs).toArray:=by simp[←hp]
  show (Instr.buildSlice t vs.length (l.toArray.map fun (p:Nat×Operand)=>(p.1,ρ p.2))).bind (fun r=>Sem.pure (Next.value r))=_;rw[hm]
 rw[he,Sem.run_bind',hfin]
 rfl
end
end Go.Proofs.YtkjabaihpkbfhaaGreat.K
namespace Go.Proofs.YtkjabaihpkbfhaaGreat.K
open Go Go.RowKit
variable {ds:List Deferred}
section
variable {P:Program} {ops:Array Oper} {a:Act} {n:Nat} {E:Env} {w:World} {rest:List Oper} {o:Oper} {v:Value} {d:Nat} {c:Prop} [Decidable c]
variable {C:World→Prop} {Q:Act→Prop}
theorem q1 (I:Ag a n E ds)(hg:o.guard=none)(hd:o.dst=some d)(hn:Nat.blt d n=true)(hr:∀w,C w→(execOp a.eval o).run P w=.ok (.value v) w)
 (k:∀a',Ag a' n ((d,v)::E) ds→wpQuiet P ops C Q rest a'):wpQuiet P ops C Q (o::rest) a:=by
 refine wpQuiet_step fun K hK=>?_;rw[if_pos (by simp[Region.wanted,hg])];refine⟨v,fun w hw=>by simp[Oper.quietAt,hr w hw,Oper.quietUpon],?_⟩;rw[dI hd];exact hK _ (k _ (I.put hn v))
theorem Jr (I:Ag a n E ds)(hw:Region.wanted o (yielded ops a.tmps)=true)(hd:o.dst=some d)(hn:Nat.blt d n=true)(hr:∀w,C w→(execOp a.eval o).run P w=.ok (.value v) w)
 (k:∀a',Ag a' n ((d,v)::E) ds→wpQuiet P ops C Q rest a'):wpQuiet P ops C Q (o::rest) a:=by
 refine wpQuiet_step fun K hK=>?_;rw[if_pos hw];refine⟨v,fun w hw=>by simp[Oper.quietAt,hr w hw,Oper.quietUpon],?_⟩;rw[dI hd];exact hK _ (k _ (I.put hn v))
theorem qS (I:Ag a n E ds)(hw:Region.wanted o (yielded ops a.tmps)=false)(hd:o.dst=some d)(hn:Nat.blt d n=true)
 (k:∀a',Ag a' n ((d,undef)::E) ds→wpQuiet P ops C Q rest a'):wpQuiet P ops C Q (o::rest) a:=by
 refine wpQuiet_step fun K hK=>?_;rw[hw];simp only[Bool.false_eq_true,if_false];rw[dI hd];exact hK _ (k _ (I.put hn undef))
theorem sE (I:Ag a n E ds)(hg:o.guard=none)(hd:o.dst=some d)(hn:Nat.blt d n=true)(hr:∀w,C w→(execOp a.eval o).run P w=.ok (.value (.bool (decide c))) w)
 (kt:c→∀a',Ag a' n ((d,.bool true)::E) ds→wpQuiet P ops C Q rest a') (kf:¬c→∀a',Ag a' n ((d,.bool false)::E) ds→wpQuiet P ops C Q rest a'):wpQuiet P ops C Q (o::rest) a:=by
 by_cases h:c
 ·
  exact q1 I hg hd hn (fun w hw=>c5 (hr w hw) h) (kt h)
 ·
  exact q1 I hg hd hn (fun w hw=>dz (hr w hw) h) (kf h)
theorem oU (I:Ag a n E ds)(hw:Region.wanted o (yielded ops a.tmps)=true)(hd:o.dst=some d)(hn:Nat.blt d n=true)(hr:∀w,C w→(execOp a.eval o).run P w=.ok (.value (.bool (decide c))) w)
 (kt:c→∀a',Ag a' n ((d,.bool true)::E) ds→wpQuiet P ops C Q rest a') (kf:¬c→∀a',Ag a' n ((d,.bool false)::E) ds→wpQuiet P ops C Q rest a'):wpQuiet P ops C Q (o::rest) a:=by
 by_cases h:c
 ·
  exact Jr I hw hd hn (fun w hw=>c5 (hr w hw) h) (kt h)
 ·
  exact Jr I hw hd hn (fun w hw=>dz (hr w hw) h) (kf h)
theorem Ky (I:Ag a n E ds)(hg:o.guard=none)(hd:o.dst=some d)(hn:Nat.blt d n=true){b:Bool}(hr:∀w,C w→(execOp a.eval o).run P w=.ok (.value (.bool b)) w)
 (kt:b=true→∀a',Ag a' n ((d,.bool true)::E) ds→wpQuiet P ops C Q rest a') (kf:b=false→∀a',Ag a' n ((d,.bool false)::E) ds→wpQuiet P ops C Q rest a'):wpQuiet P ops C Q (o::rest) a:=by
 cases b with
 | true=>exact q1 I hg hd hn hr (kt rfl)
 | false=>exact q1 I hg hd hn hr (kf rfl)
theorem cF {id:Nat}{Q':Exit→Act→World→Prop}{l:List Oper}(C:World→Prop)(hm:P.follows .mixedOrders=true)(hB:Region.lexB .any l.toArray=true)(hC:C w.drew)
 (h:wpQuiet P l.toArray C (fun a'=>∀w',C w'→Q' .normal a' w') l a):(Code.region id l.toArray true).wp P Q' a w:=
 wp_region_quiet (C:=C) hm hB hC (by simpa using h)
theorem Ko (I:Ag a n E ds)(hw:Region.wanted o (yielded ops a.tmps)=true)(hd:o.dst=some d)(hn:Nat.blt d n=true)(hr:(execOp a.eval o).run P w=.ok (.value v) w)
 (k:∀a',Ag a' n ((d,v)::E) ds→wpStill P ops w Q rest a'):wpStill P ops w Q (o::rest) a:=by
 refine wpStill_step fun K hK=>?_;rw[if_pos hw];simp only[Oper.still,hr,Oper.stillUpon_value];rw[dI hd];exact hK _ (k _ (I.put hn v))
theorem tS (I:Ag a n E ds)(hw:Region.wanted o (yielded ops a.tmps)=false)(hd:o.dst=some d)(hn:Nat.blt d n=true)
 (k:∀a',Ag a' n ((d,undef)::E) ds→wpStill P ops w Q rest a'):wpStill P ops w Q (o::rest) a:=by
 refine wpStill_step fun K hK=>?_;rw[hw];simp only[Bool.false_eq_true,if_false];rw[dI hd];exact hK _ (k _ (I.put hn undef))
theorem xN {id:Nat}{Q':Exit→Act→World→Prop}{l l1 l2:List Oper}(e:l=l1++l2)(hm:P.follows .mixedOrders=true)(hB:Region.lexTailB .any l.toArray l1.length=true)
 (h:wpStill P l.toArray w.drew (fun a'=>wpList P l.toArray Q' l2 a' w.drew) l1 a):(Code.region id l.toArray true).wp P Q' a w:=by
 refine wp_region_still_tail l1.length hm hB ?_;subst e;simpa using h
end
def eS (Q:Exit→Act→World→Prop):Prop:=∀(c:List PanicEntry) (a:Act) (w:World) (d:Option Tmp) (v:Value),Q (.panic c) (a.put d v) w→Q (.panic c) a w
theorem zl {P:Program}{fn:Func}{R:Ending→World→Prop}:eS (bodyPost P fn R):=fun c a w d v h=>by
 cases d<;>exact h
theorem uq {K:Act→World→Prop}{Q:Exit→Act→World→Prop}(h:eS Q):eS (Exit.then K Q):=fun c a w d v=>h c a w d v
theorem xu {i:Nat}{Q:Exit→Act→World→Prop}(h:eS Q):eS (Exit.inBlock i Q):=fun c a w d v=>h c a w d v
section
variable {P:Program} {ops:Array Oper} {a:Act} {n:Nat} {E:Env} {w:World} {o:Oper} {v:Value} {d i fuel:Nat} {c:Prop} [Decidable c] {S:World→Prop} {Q:Exit→Act→World→Prop} {listed:Array Bool}
theorem Hi {id:Nat}{l:List Oper}(S:World→Prop)(hm:P.follows .mixedOrders=true)
 (h:wpAnyH P .any l.toArray Q S l.length (Array.replicate l.length false) a w.drew):(Code.region id l.toArray true).wp P Q a w:=
 wp_region_held (S:=S) hm (by simpa using h)
theorem h1 (i:Nat)(I:Ag a n E ds)(hp:eS Q)(hi:ops[i]?=some o)(hg:o.guard=none)(hd:o.dst=some d)(hn:Nat.blt d n=true)(hs:Region.noSelect ops=true)(hf:Region.free .any ops listed i=true)
 (hrd:(Region.ready .any ops listed).contains i=true) (O:S w) (hr:∀w,S w→(execOp a.eval o).run P w=.ok (.value v) w)
 (k:∀a',Ag a' n ((d,v)::E) ds→wpAnyH P .any ops Q S fuel (listed.setIfInBounds i true) a' w):wpAnyH P .any ops Q S (fuel+1) listed a w:=by
 refine wpAnyH_take hi hs hf hrd (fun c a w h=>hp c a w _ _ h) (.inl ⟨by simp[Region.wanted,hg],hr⟩) O ?_;rw[dI hd];exact k _ (I.put hn v)
theorem Jz (i:Nat)(hrd:Region.ready .any ops listed=[i])(h:wpOp P ops Q i (fun a' w'=>S w'∧wpAnyH P .any ops Q S fuel (listed.setIfInBounds i true) a' w') a w):wpAnyH P .any ops Q S (fuel+1) listed a w:=
 wpAnyH_all hrd (by simp) fun j hj=>by simp at hj;subst hj;exact h
theorem e1 {K:Act→World→Prop}{w':World}(I:Ag a n E ds)(hi:ops[i]?=some o)(hg:o.guard=none)(hd:o.dst=some d)(hn:Nat.blt d n=true)(hr:(execOp a.eval o).run P w=.ok (.value v) w')
 (k:∀a',Ag a' n ((d,v)::E) ds→K a' w'):wpOp P ops Q i K a w:=by
 unfold wpOp;simp only[hi];rw[if_pos (by simp[Region.wanted,hg])];refine .inl ?_;simp only[Oper.wp,hr,Oper.upon];rw[dI hd];exact k _ (I.put hn v)
theorem e0 {K:Act→World→Prop}{w':World}(I:Ag a n E ds)(hi:ops[i]?=some o)(hg:o.guard=none)(hd:o.dst=none)(hr:(execOp a.eval o).run P w=.ok .skip w')(k:K a w'):wpOp P ops Q i K a w:=by
 unfold wpOp;simp only[hi];rw[if_pos (by simp[Region.wanted,hg])];refine .inl ?_;simp only[Oper.wp,hr,Oper.upon,hd];exact k
theorem eF {K:Act→World→Prop}{f:Nat}{l:List Operand}{tys:Array TypeId}{vs:List Value}{ty:TypeId}{ps:String}{af:Array Edge}{R:Ending→World→Prop}(I:Ag a n E ds)(hi:ops[i]?=some ⟨some d,.call { callee:=.value (.func f),args:=l.toArray,argTypes:=tys },ty,ps,af,none⟩)
 (hn:Nat.blt d n=true) (hf:enters P f=true) (hv:mW E l=some vs) (hc:Calls P f vs.toArray w R) (k:∀e w',R e w'→∃v,e=.returned v∧∀a',Ag a' n ((d,v)::E) ds→K a' w'):wpOp P ops Q i K a w:=by
 unfold wpOp;simp only[hi];rw[if_pos (by simp[Region.wanted])];refine .inl ?_;simp only[Oper.wp,px I hf hv,Oper.upon];refine hc.mono fun e w' h=>?_;obtain⟨v,rfl,hk⟩:=k e w' h;exact hk _ (I.put hn v)
end
end Go.Proofs.YtkjabaihpkbfhaaGreat.K
namespace Go.Proofs.YtkjabaihpkbfhaaGreat.K
open Go Go.RowKit
variable {ds:List Deferred}
def jW (A:Option Addr)(c sz i:Nat):Option Addr:=if c=i then A else A.map (·.add (i * sz))
section
variable {P:Program} {w:World} {ρ:Operand→Value} {d:Option Tmp} {ty t e:TypeId} {ps:String} {af:Array Edge} {g:Option (Nat×Bool)} {x y z:Operand}
variable {A:Option Addr} {n c sz:Nat} {i j:Int} {k k':IntKind}
theorem xi (hx:ρ x=.slice A n c)(hy:ρ y=.int k i)(ht:P.underlying t=some (.slice e))(hz:(P.info? e).map (·.size)=some sz)(h0:0≤i)(h1:i≤n) :
 (execOp ρ ⟨d,.slice t x (some y) none none,ty,ps,af,g⟩).run P w=.ok (.value (.slice (jW A c sz i.toNat) (n-i.toNat) (c-i.toNat))) w:=by
 obtain⟨q,hq,hqz⟩:=Option.map_eq_some_iff.1 hz;simp[execOp,Instr.sliceAt,Instr.slice,Instr.sliceBounds,Instr.sliceBound,run_underlying ht,hx,hy,asIntOf,h0,h1,sizeOf,typeInfo,hq,hqz,jW,go_sem]
theorem mz (hx:ρ x=.slice A n c)(hy:ρ y=.int k j)(ht:P.underlying t=some (.slice e))(hz:(P.info? e).map (·.size)=some sz)(h0:0≤j)(h1:j≤c) :
 (execOp ρ ⟨d,.slice t x none (some y) none,ty,ps,af,g⟩).run P w=.ok (.value (.slice (jW A c sz 0) j.toNat c)) w:=by
 obtain⟨q,hq,hqz⟩:=Option.map_eq_some_iff.1 hz;simp[execOp,Instr.sliceAt,Instr.slice,Instr.sliceBounds,Instr.sliceBound,run_underlying ht,hx,hy,asIntOf,h0,h1,sizeOf,typeInfo,hq,hqz,jW,go_sem]
theorem iq (hx:ρ x=.slice A n c)(hy:ρ y=.int k i)(hw:ρ z=.int k' j)(ht:P.underlying t=some (.slice e))(hz:(P.info? e).map (·.size)=some sz)(h0:0≤i)(h1:i≤j)(h2:j≤c) :
 (execOp ρ ⟨d,.slice t x (some y) (some z) none,ty,ps,af,g⟩).run P w=.ok (.value (.slice (jW A c sz i.toNat) (j.toNat-i.toNat) (c-i.toNat))) w:=by
 obtain⟨q,hq,hqz⟩:=Option.map_eq_some_iff.1 hz;obtain⟨jj,rfl⟩:=Int.eq_ofNat_of_zero_le (show 0≤j by omega);have h3:(0:Int)≤(jj:Int):=by omega
 have h4:jj≤c:=by omega
 simp[h4,execOp,Instr.sliceAt,Instr.slice,Instr.sliceBounds,Instr.sliceBound,run_underlying ht,hx,hy,hw,asIntOf,h0,h2,h3,h1,sizeOf,typeInfo,hq,hqz,jW,go_sem]
theorem Rd.cut {cs:List Value}(h:Rd w sz (.slice A n c) n cs)(i j:Nat)(hij:i≤j)(hj:j≤n):Rd w sz (.slice (jW A c sz i) (j-i) (c-i)) (j-i) ((cs.drop (i * sz)).take ((j-i) * sz)):=by
 obtain⟨A',c',hv,hc,hl,h⟩:=h
 injection hv with h1 h2 h3
 subst h1 h3;refine⟨_,_,rfl,by omega,?_,?_⟩
 ·
  have:j * sz≤n * sz:=Nat.mul_le_mul_right _ hj;have e:(j-i) * sz=j * sz-i * sz:=Nat.sub_mul ..;simp;omega
 ·
  by_cases h0:j-i=0
  ·
   exact .inl h0
  ·
   right
   rcases h with h | ⟨p,rfl,hh⟩
   ·
    omega
   ·
    have:c≠i:=by omega
    refine⟨p.add (i * sz),by simp[jW,this],fun q u e=>?_⟩;rw[add_add];have hq:=(List.getElem?_eq_some_iff.1 e).1;rw[List.getElem?_take_of_lt (by simp at hq;omega),List.getElem?_drop]at e;exact hh _ _ e
theorem Rd.G8 {cs:List Value}(h:Rd w sz (.slice A n c) n cs)(i:Nat)(hi:i≤n):Rd w sz (.slice (jW A c sz i) (n-i) (c-i)) (n-i) (cs.drop (i * sz)):=by
 have:=h.cut i n hi (Nat.le_refl _);have hl:=h.len;rwa[List.take_of_length_le (by rw[Nat.sub_mul];simp;omega)]at this
theorem Rd.IU {cs:List Value}(h:Rd w sz (.slice A n c) n cs)(j:Nat)(hj:j≤n):Rd w sz (.slice (jW A c sz 0) j c) j (cs.take (j * sz)):=by
 have:=h.cut 0 j (Nat.zero_le _) hj;simpa using this
def Gq (E:Env):List (Nat×Operand)→Option (List (Nat×Value))
 | []=>some []
 | (i, x) :: l => match fE E x with
   | some v => match Gq E l with
     | some vs=>some ((i,v)::vs)
     | none=>none
   | none=>none
theorem Ag.Gq {a:Act}{n:Nat}{E:Env}(h:Ag a n E ds):∀ {l:List (Nat×Operand)} {vs:List (Nat×Value)},Gq E l=some vs→l.map (fun p=>(p.1,a.eval p.2))=vs
 | [],vs,e=>by simp[K.Gq]at e;subst e;rfl
 | (i, x) :: l, vs, e => by
   unfold K.Gq at e;cases hx:fE E x with
   | none=>rw[hx]at e;cases e
   | some v =>
     rw[hx]at e;cases hl:K.Gq E l with
     | none=>rw[hl]at e;cases e
     | some us =>
       rw[hl]at e;simp only[Option.some.injEq]at e;subst e;simp[h.ev hx,h.Gq hl]
theorem ar {a:Act}{n:Nat}{E:Env}{v:Value}(I:Ag a n E ds){l:List (Nat×Operand)}{vs:List (Nat×Value)}(hv:Gq E l=some vs)(hb:∀w,(Instr.build t vs.toArray).run P w=.ok v w) :
 (execOp a.eval ⟨d,.build t l.toArray,ty,ps,af,g⟩).run P w=.ok (.value v) w:=by
 have hm:(l.toArray.map fun (p:Nat×Operand)=>(p.1,a.eval p.2))=vs.toArray:=by
  have:=I.Gq hv;simp[←this]
 have he:(execOp a.eval ⟨d,.build t l.toArray,ty,ps,af,g⟩)=(Instr.build t vs.toArray).bind fun r=>Sem.pure (Next.value r):=by
  show (Instr.build t (l.toArray.map fun (p:Nat×Operand)=>(p.1,a.eval p.2))).bind (fun r=>Sem.pure (Next.value r))=_;rw[hm]
 rw[he,Sem.run_bind',hb]
 rfl
theorem G7 {a:Act}{m by_ len:Nat}{E:Env}{zv:Value}(I:Ag a m E ds){l:List (Nat×Operand)}{vs:List Value}(hv:lits E 0 l=some vs)(ht:P.underlying t=some (.slice e))(hi:dX P e=some (some zv,1,by_))(hzs:zv.cells.size=1)
 (hn:len=vs.length) (hsm:len≤16777216) (h1:∀v∈vs,v.oneCell'=true) :
 (execOp a.eval ⟨d,.buildSlice t len l.toArray,ty,ps,af,g⟩).run P w=.ok (.value (.slice (some ⟨w.heap.size,0,none⟩) len len)) (w.alloc (.cells vs.toArray e)):=by
 obtain⟨h2,h3,h4⟩:=rP hv;refine vJ ht hi hzs (by rw[h3,h4]) ?_ hn hsm h1;have:=I.mW h2;rw[←this];simp
theorem Sat.CU {W:World}{L:List As}(s:Sat W w L)(e:Nat)(vs:List Value)(len:Nat)(hn:len=vs.length)(hs:len≤16777216):Sat W (w.alloc (.cells vs.toArray e)) (row e 1 (.slice (some ⟨w.heap.size,0,none⟩) len len) len vs::L):=by
 have:=s.BR e 1 len vs.toArray (by simp[hn]) (by omega);simpa using this
end
section
variable {P:Program} {ops:Array Oper} {Q:Exit→Act→World→Prop} {a:Act} {n:Nat} {E:Env} {w w' W:World} {rest:List Oper} {d:Nat}
variable {ty t tx e:TypeId} {ps:String} {af:Array Edge} {x y:Operand} {L:List As}
theorem Sat.bx:∀ {M L:List As},Sat W w (M++L)→Sat W w L
 | [],_,s=>s
 | _::_,_,s=>Sat.bx s.drop
theorem Sat.nil {L:List As}(s:Sat W w L):Sat W w []:=⟨s.below,fun _=>Option.none,trivial,fun _ _ e=>by cases e⟩
theorem Sat.aM {M:As}{L:List As}(s:Sat W w L)(t:Sat w w' [M]):Sat W w' (M::L):=s.ag t
theorem Rd.nil {n c:Nat}{cs:List Value}{sz:Nat}(h:Rd w sz (.slice none n c) n cs):n=0∧cs=[]:=by
 obtain⟨A,c',hv,hc,hl,h⟩:=h
 injection hv with h1 h2 h3
 have:n=0:=by
  rcases h with h | ⟨p,hp,_⟩
  ·
   exact h
  ·
   rw[hp]at h1;cases h1
 exact⟨this,List.eq_nil_of_length_eq_zero (by rw[hl,this];simp)⟩
theorem dq {c m:Nat}{v u:Value}{cs ns:List Value}{z:Value}{sz by_:Nat}(I:Ag a n E ds)(hn:Nat.blt d n=true)(hs:fE E x=some v)(hu:fE E y=some u)(ht:P.underlying t=some (.slice e))(hi:dX P e=some (some z,sz,by_))(hzs:z.cells.size=sz)
 (s:Sat W w (row e sz v c cs::L)) (src:Src P sz tx u m ns w) (h1:(c+m) * by_≤140737488355328) (h2:c+m≤140737488355328)
 (k:∀A cc w',c+m≤cc→Sat W w' (row e sz (.slice A (c+m) cc) (c+m) (cs++ns)::L)→∀a',Ag a' n ((d,.slice A (c+m) cc)::E) ds→wpList P ops Q rest a' w') :
 wpList P ops Q (⟨some d,.call { callee:=.builtin .append,args:=[x,y].toArray,argTypes:=[t,tx].toArray },ty,ps,af,none⟩::rest) a w:=
 Ks I hn hs hu ht hi hzs s src h1 h2 fun v' w' S=>by
  obtain⟨A,cc,rfl,hc⟩:=S.rd.form;exact k A cc w' hc S
theorem eA {i:Nat}{K:Act→World→Prop}{c m:Nat}{v u:Value}{cs ns:List Value}{z:Value}{sz by_:Nat}(I:Ag a n E ds)(hi':ops[i]?=some ⟨some d,.call { callee:=.builtin .append,args:=[x,y].toArray,argTypes:=[t,tx].toArray },ty,ps,af,none⟩)(hn:Nat.blt d n=true)(hs:fE E x=some v)(hu:fE E y=some u)(ht:P.underlying t=some (.slice e))(hi:dX P e=some (some z,sz,by_))(hzs:z.cells.size=sz)
 (s:Sat W w (row e sz v c cs::L)) (src:Src P sz tx u m ns w) (h1:(c+m) * by_≤140737488355328) (h2:c+m≤140737488355328)
 (k:∀A cc w',c+m≤cc→Sat W w' (row e sz (.slice A (c+m) cc) (c+m) (cs++ns)::L)→∀a',Ag a' n ((d,.slice A (c+m) cc)::E) ds→K a' w'):wpOp P ops Q i K a w:=by
 obtain⟨v',w',hr,S⟩:=An (dd:=some d) (ty:=ty) (ps:=ps) (af:=af) (g:=none) (I.ev hs) (I.ev hu) ht hi hzs s src h1 h2;obtain⟨A,cc,rfl,hc⟩:=S.rd.form;exact e1 I hi' rfl rfl hn hr (k A cc w' hc S)
theorem Rd.au {A:Option Addr}{n c:Nat}{cs:List Value}{sz:Nat}(h:Rd w sz (.slice A n c) n cs)(h0:0<n):∃p,A=some p:=by
 obtain⟨p,c',hv,_⟩:=h.place h0
 injection hv with h1 h2 h3
 exact⟨p,h1⟩
theorem Rd.cell {p:Addr}{n c:Nat}{cs:List Value}{sz:Nat}(h:Rd w sz (.slice (some p) n c) n cs){j:Nat}{u:Value}(hj:cs[j]?=some u):w.cell? (p.add j)=some u:=by
 obtain⟨A,c',hv,hc,hl,h⟩:=h
 injection hv with h1 h2 h3
 rcases h with h | ⟨q,hq,hh⟩
 ·
  subst h;have:=(List.getElem?_eq_some_iff.1 hj).1;rw[hl]at this;omega
 ·
  rw[←h1]at hq
  injection hq with hq
  subst hq;exact hh j u hj
theorem nZ {l:List (Nat×Operand)}{vs:List Value}{z:Value}{by_ len:Nat}(I:Ag a n E ds)(hn:Nat.blt d n=true)(hv:lits E 0 l=some vs)(ht:P.underlying t=some (.slice e))(hi:dX P e=some (some z,1,by_))(hzs:z.cells.size=1)(hl:Nat.beq len vs.length=true)(hsm:Nat.ble len 16777216=true)(h1:∀v∈vs,v.oneCell'=true)
 (s:Sat W w L) (k:∀A w',Sat W w' (row e 1 (.slice A len len) len vs::L)→∀a',Ag a' n ((d,.slice A len len)::E) ds→wpList P ops Q rest a' w'):wpList P ops Q (⟨some d,.buildSlice t len l.toArray,ty,ps,af,none⟩::rest) a w:=
 yI I rfl rfl hn (G7 I hv ht hi hzs (Nat.eq_of_beq_eq_true hl) (Nat.le_of_ble_eq_true hsm) h1) (k _ _ (s.CU e vs len (Nat.eq_of_beq_eq_true hl) (Nat.le_of_ble_eq_true hsm)))
theorem eL {i:Nat}{K:Act→World→Prop}{l:List (Nat×Operand)}{vs:List Value}{z:Value}{by_ len:Nat}(I:Ag a n E ds)(hi':ops[i]?=some ⟨some d,.buildSlice t len l.toArray,ty,ps,af,none⟩)(hn:Nat.blt d n=true)(hv:lits E 0 l=some vs)(ht:P.underlying t=some (.slice e))(hi:dX P e=some (some z,1,by_))(hzs:z.cells.size=1)(hl:Nat.beq len vs.length=true)(hsm:Nat.ble len 16777216=true)(h1:∀v∈vs,v.oneCell'=true)
 (s:Sat W w L) (k:∀A w',Sat W w' (row e 1 (.slice A len len) len vs::L)→∀a',Ag a' n ((d,.slice A len len)::E) ds→K a' w'):wpOp P ops Q i K a w:=
 e1 I hi' rfl rfl hn (G7 I hv ht hi hzs (Nat.eq_of_beq_eq_true hl) (Nat.le_of_ble_eq_true hsm) h1) (k _ _ (s.CU e vs len (Nat.eq_of_beq_eq_true hl) (Nat.le_of_ble_eq_true hsm)))
theorem Kk {v:Value}(I:Ag a n E ds)(hn:Nat.blt d n=true)(hx:fE E x=some v)(s:Sat W w L)
 (k:∀b w',Sat W w' (a6 b (.cells v.cells e)::L)→∀a',Ag a' n ((d,.pointer (some ⟨b,0,none⟩))::E) ds→wpList P ops Q rest a' w'):wpList P ops Q (⟨some d,.box e x,ty,ps,af,none⟩::rest) a w:=
 yI I rfl rfl hn (HW (I.ev hx)) (k _ _ (s.alloc _))
theorem goN {v:Value}(I:Ag a n E ds)(hn:Nat.blt d n=true)(hz:(P.info? e).bind (·.zero)=some v)(s:Sat W w L)
 (k:∀b w',Sat W w' (a6 b (.cells v.cells e)::L)→∀a',Ag a' n ((d,.pointer (some ⟨b,0,none⟩))::E) ds→wpList P ops Q rest a' w'):wpList P ops Q (⟨some d,.alloc e,ty,ps,af,none⟩::rest) a w:=
 yI I rfl rfl hn (BW hz) (k _ _ (s.alloc _))
theorem eN {i:Nat}{K:Act→World→Prop}{v:Value}(I:Ag a n E ds)(hi':ops[i]?=some ⟨some d,.alloc e,ty,ps,af,none⟩)(hn:Nat.blt d n=true)(hz:(P.info? e).bind (·.zero)=some v)(s:Sat W w L)
 (k:∀b w',Sat W w' (a6 b (.cells v.cells e)::L)→∀a',Ag a' n ((d,.pointer (some ⟨b,0,none⟩))::E) ds→K a' w'):wpOp P ops Q i K a w:=
 e1 I hi' rfl rfl hn (BW hz) (k _ _ (s.alloc _))
theorem kK {b j:Nat}{v u:Value}{cs:Array Value}{t':TypeId}(I:Ag a n E ds)(hx:fE E x=some (.pointer (some ⟨b,j,none⟩)))(hy:fE E y=some v)(ht:flat P t=true)(h1:(P.info? t).map (·.size)=some 1)(hv:v.oneCell'=true)
 (s:Sat W w (a6 b (.cells cs t' (0,0))::L)) (hj:nth cs.toList j=some u) (k:∀w',Sat W w' (a6 b (.cells (cs.setIfInBounds j v) t' (0,0))::L)→wpList P ops Q rest a w'):wpList P ops Q (⟨none,.store t x y,ty,ps,af,none⟩::rest) a w:=
 HK I rfl rfl (tD (I.ev hx) (I.ev hy) ht h1 hv (s.cell hj) s.free) (k _ (s.store v))
theorem eW {i:Nat}{K:Act→World→Prop}{b j:Nat}{v u:Value}{cs:Array Value}{t':TypeId}(I:Ag a n E ds)(hi':ops[i]?=some ⟨none,.store t x y,ty,ps,af,none⟩)(hx:fE E x=some (.pointer (some ⟨b,j,none⟩)))(hy:fE E y=some v)(ht:flat P t=true)(h1:(P.info? t).map (·.size)=some 1)(hv:v.oneCell'=true)
 (s:Sat W w (a6 b (.cells cs t' (0,0))::L)) (hj:nth cs.toList j=some u) (k:∀w',Sat W w' (a6 b (.cells (cs.setIfInBounds j v) t' (0,0))::L)→K a w'):wpOp P ops Q i K a w:=
 e0 I hi' rfl rfl (tD (I.ev hx) (I.ev hy) ht h1 hv (s.cell hj) s.free) (k _ (s.store v))
end
end Go.Proofs.YtkjabaihpkbfhaaGreat.K
namespace Go.Proofs.YtkjabaihpkbfhaaGreat.K
open Go Go.RowKit
variable {ds:List Deferred}
def j8 (P:Program)(t:Nat):Bool:=match P.underlying t with | some (.struct _)=>true | some (.array _ _)=>true | _=>false
section
variable {P:Program} {w:World}
theorem lF {t:Nat}(h:j8 P t=true)(w:World):(isAgg t).run P w=.ok true w:=by
 cases hu:P.underlying t with
 | none=>simp[j8,hu]at h
 | some u =>
   unfold isAgg;cases u<;>simp_all[j8,run_underlying hu,go_sem]
theorem run_loadCellsFrom (p:Addr):∀(cs:List Value) (i:Nat) (acc:Array Value),(∀j u,cs[j]?=some u→w.cell? (p.add (i+j))=some u)→(loadCellsFrom p i cs.length acc).run P w=.ok (acc++cs.toArray) w
 | [],i,acc,_=>by simp[loadCellsFrom,go_sem]
 | v :: cs, i, acc, h => by
   have h0:=h 0 v rfl;have ih:=run_loadCellsFrom p cs (i+1) (acc.push v) fun j u e=>by have:=h (j+1) u (by simpa using e);rwa[show i+1+j=i+(j+1) from by omega]
   simp only[List.length_cons,loadCellsFrom];rw[Nat.add_zero]at h0;simp only[Sem.run_bind];simp only[load,Sem.run,h0,Result.andThen_ok,ih];simp
variable {ρ:Operand→Value} {d:Option Tmp} {ty:TypeId} {ps:String} {af:Array Edge} {g:Option (Nat×Bool)}
theorem aG {t:Nat}{x:Operand}{p:Addr}{cs:List Value}(hx:ρ x=.pointer (some p))(ht:j8 P t=true)(hz:(P.info? t).map (·.size)=some cs.length)(hc:∀j u,cs[j]?=some u→w.cell? (p.add j)=some u) :
 (execOp ρ ⟨d,.load t x,ty,ps,af,g⟩).run P w=.ok (.value (.agg cs.toArray)) w:=by
 obtain⟨i,hi,hiz⟩:=Option.map_eq_some_iff.1 hz;have h1:=lF ht w;have h2:=run_loadCellsFrom (P:=P) (w:=w) p cs 0 #[] (by simpa using hc);simp[execOp,hx,Instr.loadAt,Instr.sureAddr,loadVar,h1,sizeOf,typeInfo,hi,hiz,loadCells,h2,go_sem]
theorem aC {s f off z:Nat}{x:Operand}{p:Addr}(hx:ρ x=.pointer (some p))(hs:bo P s f=some (off,some (z+1))) :
 (execOp ρ ⟨d,.fieldAddr s x f,ty,ps,af,g⟩).run P w=.ok (.value (.pointer (some (p.add off)))) w:=by
 unfold bo at hs
 split at hs
 ·
  rename_i fs hu;cases hf:fs[f]? with
  | none=>rw[hf]at hs;cases hs
  | some fi =>
    rw[hf]at hs;simp only[Option.map_some,Option.some.injEq,Prod.mk.injEq]at hs;obtain⟨rfl,hz⟩:=hs;obtain⟨i,hi,hz⟩:=Option.map_eq_some_iff.1 hz;simp[execOp,hx,Instr.fieldAt,run_underlying hu,hf,Instr.sureAddr,fieldPlace,sizeOf,typeInfo,hi,hz,go_sem]
 ·
  cases hs
theorem Sat.ao {W:World}{L:List As}{b o:Nat}{cs:Array Value}{t:TypeId}{fr:Nat×Nat}{xs:List Value}(s:Sat W w (a6 b (.cells cs t fr)::L))(h:(cs.toList.drop o).take xs.length=xs):∀j u,xs[j]?=some u→w.cell? ((⟨b,o,none⟩:Addr).add j)=some u:=fun j u e=>by
 rw[add_lit];have hj:=(List.getElem?_eq_some_iff.1 e).1;refine s.pJ ?_;rw[←h,List.getElem?_take_of_lt hj,List.getElem?_drop]at e;simpa using e
theorem kX {b:Nat}{t:TypeId}:∀(news:List Value) (i o:Nat) (olds rest:List Value) (W:World) (L:List As) (w:World),olds.length=o+i→news.length≤rest.length→(∀v∈news,v.oneCell'=true)→Sat W w (a6 b (.cells (olds++rest).toArray t (0,0))::L)→
 ∃w',(storeCells ⟨b,o,none⟩ news i).run P w=.ok () w'∧Sat W w' (a6 b (.cells (olds++news++rest.drop news.length).toArray t (0,0))::L)
 | [],i,o,olds,rest,W,L,w,_,_,_,s=>⟨w,by simp[storeCells,go_sem],by simpa using s⟩
 | v :: news, i, o, olds, rest, W, L, w, ho, hl, h1, s => by
   cases rest with
   | nil=>simp at hl
   | cons x rest =>
     have hcell:w.cell? ⟨b,o+i,none⟩=some x:=s.pJ (by simp[←ho]);have s1:=s.store (j:=o+i) v
     have he:(olds++x::rest).toArray.setIfInBounds (o+i) v=(olds++[v]++rest).toArray:=by
      rw[List.setIfInBounds_toArray,List.set_append_right _ _ (by omega),ho];simp
     rw[he]at s1;obtain⟨w',hr,s'⟩:=kX news (i+1) o (olds++[v]) rest W L _ (by simp;omega) (by simpa using hl) (fun u hu=>h1 u (List.mem_cons_of_mem _ hu)) s1;refine⟨w',?_,by simpa using s'⟩;have hv:=h1 v (by simp)
     have hst:(store (⟨b,o+i,none⟩:Addr) v).run P w=.ok () (w.setCell ⟨b,o+i,none⟩ v):=by
      cases v<;>simp[Value.oneCell']at hv<;>simp[store,Sem.run,hcell,s.free,go_sem]
     rw[storeCells,add_lit];simp only[Sem.run_bind,hst,Result.andThen_ok,hr]
end
section
variable {P:Program} {ops:Array Oper} {Q:Exit→Act→World→Prop} {a:Act} {n:Nat} {E:Env} {w w' W:World} {rest:List Oper}
variable {ty t e:TypeId} {ps:String} {af:Array Edge} {x y:Operand} {L:List As}
theorem zt {ρ:Operand→Value}{dd:Option Tmp}{g:Option (Nat×Bool)}{b o:Nat}{vs cs:List Value}{t':TypeId}(hx:ρ x=.pointer (some ⟨b,o,none⟩))(hy:ρ y=.agg vs.toArray)(h1:(P.info? t).map (·.size)=some vs.length)(hv:∀v∈vs,v.oneCell'=true)
 (s:Sat W w (a6 b (.cells cs.toArray t' (0,0))::L)) (hl:o+vs.length≤cs.length) :
 ∃w',(execOp ρ ⟨dd,.store t x y,ty,ps,af,g⟩).run P w=.ok .skip w'∧Sat W w' (a6 b (.cells (cs.take o++vs++cs.drop (o+vs.length)).toArray t' (0,0))::L):=by
 obtain⟨i,hi,hiz⟩:=Option.map_eq_some_iff.1 h1;have hs:Sat W w (a6 b (.cells (cs.take o++cs.drop o).toArray t' (0,0))::L):=by rwa[List.take_append_drop]
 obtain⟨w',hr,s'⟩:=kX (P:=P) vs 0 o (cs.take o) (cs.drop o) W L w (by simp;omega) (by simp;omega) hv hs;rw[List.drop_drop]at s';refine⟨w',?_,by simpa[Nat.add_comm]using s'⟩
 have he:execOp ρ ⟨dd,.store t x y,ty,ps,af,g⟩=(storeVar t ⟨b,o,none⟩ (.agg vs.toArray)).bind fun _=>Sem.pure Next.skip:=by
  show (Instr.storeAt t (ρ x) (ρ y)).bind (fun _=>Sem.pure Next.skip)=_;rw[hx,hy]
  rfl
 have h2:(storeVar t ⟨b,o,none⟩ (.agg vs.toArray)).run P w=.ok () w':=by
  simp[storeVar,Value.cells,sizeOf,typeInfo,hi,hiz,hr,go_sem]
 rw[he,Sem.run_bind',h2]
 rfl
theorem HD {b o:Nat}{vs cs:List Value}{t':TypeId}(I:Ag a n E ds)(hx:fE E x=some (.pointer (some ⟨b,o,none⟩)))(hy:fE E y=some (.agg vs.toArray))(h1:(P.info? t).map (·.size)=some vs.length)(hv:∀v∈vs,v.oneCell'=true)
 (s:Sat W w (a6 b (.cells cs.toArray t' (0,0))::L)) (hl:o+vs.length≤cs.length)
 (k:∀w',Sat W w' (a6 b (.cells (cs.take o++vs++cs.drop (o+vs.length)).toArray t' (0,0))::L)→wpList P ops Q rest a w'):wpList P ops Q (⟨none,.store t x y,ty,ps,af,none⟩::rest) a w:=by
 obtain⟨w',hr,s'⟩:=zt (dd:=none) (ty:=ty) (ps:=ps) (af:=af) (g:=none) (I.ev hx) (I.ev hy) h1 hv s hl;exact HK I rfl rfl hr (k w' s')
theorem KA {i:Nat}{K:Act→World→Prop}{b o:Nat}{vs cs:List Value}{t':TypeId}(I:Ag a n E ds)(hi':ops[i]?=some ⟨none,.store t x y,ty,ps,af,none⟩)(hx:fE E x=some (.pointer (some ⟨b,o,none⟩)))(hy:fE E y=some (.agg vs.toArray))(h1:(P.info? t).map (·.size)=some vs.length)(hv:∀v∈vs,v.oneCell'=true)
 (s:Sat W w (a6 b (.cells cs.toArray t' (0,0))::L)) (hl:o+vs.length≤cs.length)
 (k:∀w',Sat W w' (a6 b (.cells (cs.take o++vs++cs.drop (o+vs.length)).toArray t' (0,0))::L)→K a w'):wpOp P ops Q i K a w:=by
 obtain⟨w',hr,s'⟩:=zt (dd:=none) (ty:=ty) (ps:=ps) (af:=af) (g:=none) (I.ev hx) (I.ev hy) h1 hv s hl;exact e0 I hi' rfl rfl hr (k w' s')
end
theorem oy {α:Type}(enc:α→List Value)(sz:Nat)(h:∀x,(enc x).length=sz)(xs:List α):(xs.flatMap enc).length=xs.length * sz:=by
 induction xs with
 | nil=>simp
 | cons x xs ih=>simp[ih,h,Nat.add_mul,Nat.add_comm]
end Go.Proofs.YtkjabaihpkbfhaaGreat.K
namespace Go.Proofs.YtkjabaihpkbfhaaGreat.K
open Go Go.RowKit
structure Jd {H:Type}(B:DataW H→Nat):Prop where
 lit:∀l,1≤B (.lit l)
 str:∀b,B (.lit (.string b))=b.length+1
 nil:1≤B .nil
 slice:∀es sp,B (.slice es sp)=(es.map B).sum+(sp.map B).sum+1
 agg:∀ps,B (.agg ps)=(ps.map B).sum+1
abbrev tr {H:Type}(enc:TypeId×Value→H)(P:Program)(W:World)(fuel:Nat)(t:TypeId)(cs:List Value):=DataW.trod enc P W 0 (fun _=>true) true fuel t cs
structure G9 (P:Program)(W:World)(t sz:Nat){α:Type}(rel:List Value→α→Prop)(wb:α→Prop)(bk:α→Nat):Prop where
 size:P.cellsOf t=sz
 open_:∀ {H:Type} (enc:TypeId×Value→H) (B:DataW H→Nat),Jd B→∀fuel cs d p,tr enc P W fuel t cs=some (d,p)→∃a,rel cs a∧((d.weights P t).all (·≤reachBytes)=true→wb a)∧bk a≤B d
section
variable {P:Program} {W:World}
theorem G9.int {t:Nat}{k:IntKind}(ht:P.underlying t=some (.int k))(hc:P.cellsOf t=1):G9 P W t 1 (fun cs (a:Int)=>cs=[.int k a]∧(Lit.int k a).wf=true) (fun _=>True) (fun _=>1):=by
 refine⟨hc,fun enc B hB fuel cs d p h=>?_⟩;cases fuel with
 | zero=>simp[tr,DataW.trod]at h
 | succ fuel =>
   simp only[tr,DataW.trod,ht]at h
   split at h<;>try simp_all
   obtain⟨⟨rfl,hw⟩,rfl,rfl⟩:=h;exact hB.lit _
theorem mapM_some {α β:Type}{f:α→Option β}:∀ {l:List α} {ys:List β},l.mapM f=some ys→ys.length=l.length∧∀(i:Nat) (x:α),l[i]?=some x→∃y,ys[i]?=some y∧f x=some y
 | [],ys,h=>by simp at h;subst h;simp
 | x :: l, ys, h => by
   rw[List.mapM_cons]at h;cases hx:f x with
   | none=>rw[hx]at h;cases h
   | some y =>
     cases hl:l.mapM f with
     | none=>rw[hx,hl]at h;cases h
     | some zs =>
       rw[hx,hl]at h;have:ys=y::zs:=by simpa using h.symm
       subst this;obtain⟨h1,h2⟩:=mapM_some hl;refine⟨by simp[h1],fun i u e=>?_⟩;cases i with
       | zero=>simp at e;subst e;exact⟨y,rfl,hx⟩
       | succ i=>simpa using h2 i u (by simpa using e)
theorem vY {base:Nat}{a:Addr}{n:Nat}{cs:List Value}(h:W.cells? base a n=some cs):cs.length=n∧∀(j:Nat) (u:Value),cs[j]?=some u→W.cell? (a.add j)=some u:=by
 unfold World.cells? at h
 split at h
 ·
  obtain⟨h1,h2⟩:=mapM_some h;simp at h1;refine⟨h1,fun j u e=>?_⟩;have hj:=(List.getElem?_eq_some_iff.1 e).1;obtain⟨y,hy,hc⟩:=h2 j j (List.getElem?_range (by omega));rw[e]at hy
  injection hy with hy
  rw[hc,hy]
 ·
  cases h
theorem um {sz:Nat}:∀(css:List (List Value)),(∀c∈css,c.length=sz)→css.flatten.length=css.length * sz∧∀j u,css.flatten[j]?=some u→∃i q c,css[i]?=some c∧c[q]?=some u∧j=i * sz+q
 | [],_=>by simp
 | c :: css, h => by
   obtain⟨h1,h2⟩:=um css fun c hc=>h c (List.mem_cons_of_mem _ hc)
   have hc:=h c (by simp);refine⟨by simp[h1,hc,Nat.add_mul,Nat.add_comm],fun j u e=>?_⟩;simp only[List.flatten_cons]at e
   by_cases hj:j<c.length
   ·
    rw[List.getElem?_append_left hj]at e;exact⟨0,j,c,rfl,e,by omega⟩
   ·
    rw[List.getElem?_append_right (by omega)]at e;obtain⟨i,q,c',hi,hq,hh⟩:=h2 _ _ e;exact⟨i+1,q,c',by simpa using hi,hq,by rw[Nat.add_mul];omega⟩
theorem Ff {α H:Type}{bk:α→Nat}{B:DataW H→Nat}:∀(az:List α) (ds:List (DataW H)),az.length=ds.length→(∀(i:Nat) (a:α) (d:DataW H),az[i]?=some a→ds[i]?=some d→bk a≤B d)→(az.map bk).sum≤(ds.map B).sum
 | [],ds,_,_=>by simp
 | a :: az, ds, hl, h => by
   cases ds with
   | nil=>simp at hl
   | cons d ds =>
     have h0:=h 0 a d rfl rfl;have ih:=Ff az ds (by simpa using hl) fun i x y hx hy=>h (i+1) x y (by simpa using hx) (by simpa using hy)
     simp;omega
theorem oZ {H:Type}{e:Nat}:∀(ds:List (DataW H)) (d:DataW H),d∈ds→∀x∈d.weights P e,x∈DataW.weightsAll P e ds
 | d :: ds, d', hd, x, hx => by
   simp only[DataW.weightsAll,List.mem_append];rcases List.mem_cons.1 hd with rfl | hd
   ·
    exact .inl hx
   ·
    exact .inr (oZ ds d' hd x hx)
theorem G9.slice {t e sz by_:Nat}{α:Type}{rel:List Value→α→Prop}{wb:α→Prop}{bk:α→Nat}(ht:P.underlying t=some (.slice e))(hs:P.cellsOf t=1)(hb:P.bytesOf e=by_)(h:G9 P W e sz rel wb bk) :
 G9 P W t 1 (fun cs (az:List α)=>∃A c css,cs=[.slice A az.length c]∧c≤maxLen∧Rd W sz (.slice A az.length c) az.length (List.flatten css)∧css.length=az.length∧(∀c∈css,c.length=sz)∧∀(i:Nat) (x:List Value) (a:α),css[i]?=some x→az[i]?=some a→rel x a)
  (fun az=>az.length * by_≤reachBytes∧∀a∈az,wb a) (fun az=>(az.map bk).sum+1):=by
 refine⟨hs,fun enc B hB fuel cs d p hh=>?_⟩;cases fuel with
 | zero=>simp[tr,DataW.trod]at hh
 | succ fuel =>
   simp only[tr,DataW.trod,ht]at hh
   split at hh<;>first | (cases hh;done) | skip
   all_goals try (rename_i q;cases q;done)
   ·
    rename_i heq;cases heq;cases hh;refine⟨[],⟨none,0,[],rfl,Nat.zero_le _,⟨none,0,rfl,Nat.le_refl _,by simp,.inl rfl⟩,rfl,by simp,by simp⟩,fun _=>⟨by simp,by simp⟩,?_⟩;simpa using hB.nil
   ·
    rename_i a len cap heq;cases heq
    split at hh
    ·
     rename_i hc;obtain⟨_,hlen,hcap⟩:=hc;cases hm:(List.range len).mapM (fun i=>(W.cells? 0 (a.add (i * P.cellsOf e)) (P.cellsOf e)).bind (DataW.trod enc P W 0 (fun _=>true) true fuel e)) with
     | none=>rw[hm]at hh;cases hh
     | some elems =>
       rw[hm]at hh;simp only[Option.bind_some,if_true]at hh;obtain⟨rest,hr,hh⟩:=Option.map_eq_some_iff.1 hh;simp only[Prod.mk.injEq]at hh;obtain⟨rfl,_⟩:=hh;obtain⟨hl,hat⟩:=mapM_some hm;simp at hl
       have key:∀i,i<len→∃(cs:List Value) (x:DataW _) (pl:List MemPlace) (y:α),W.cells? 0 (a.add (i * sz)) sz=some cs∧elems[i]?=some (x,pl)∧rel cs y∧((x.weights P e).all (·≤reachBytes)=true→wb y)∧bk y≤B x:=by
        intro i hi;obtain⟨y,hy,hb⟩:=hat i i (List.getElem?_range hi);rw[h.size]at hb;obtain⟨cs,hcs,hb⟩:=Option.bind_eq_some_iff.1 hb;obtain⟨y0,p0⟩:=y;obtain⟨z,h1,h2,h3⟩:=h.open_ enc B hB fuel cs y0 p0 hb;exact⟨cs,y0,p0,z,hcs,hy,h1,h2,h3⟩
       have pick:∀m,m≤len→∃(css:List (List Value)) (az:List α),css.length=m∧az.length=m∧∀i,i<m→∃(cs:List Value) (x:DataW _) (pl:List MemPlace) (y:α),css[i]?=some cs∧az[i]?=some y∧W.cells? 0 (a.add (i * sz)) sz=some cs∧elems[i]?=some (x,pl)∧rel cs y∧((x.weights P e).all (·≤reachBytes)=true→wb y)∧bk y≤B x:=by
        intro m
        induction m with
        | zero=>exact fun _=>⟨[],[],rfl,rfl,fun i hi=>by omega⟩
        | succ m ih =>
          intro hm';obtain⟨css,az,h1,h2,h3⟩:=ih (by omega);obtain⟨cs,x,pl,y,k1,k2,k3,k4,k5⟩:=key m (by omega);refine⟨css++[cs],az++[y],by simp[h1],by simp[h2],fun i hi=>?_⟩
          by_cases hi':i<m
          ·
           obtain⟨cs',x',pl',y',q1,q2,q3⟩:=h3 i hi';exact⟨cs',x',pl',y',by rw[List.getElem?_append_left (by omega)];exact q1,by rw[List.getElem?_append_left (by omega)];exact q2,q3⟩
          ·
           obtain rfl:i=m:=by omega
           exact⟨cs,x,pl,y,by simp[←h1],by simp[←h2],k1,k2,k3,k4,k5⟩
       obtain⟨css,az,h1,h2,h3⟩:=pick len (Nat.le_refl _)
       have hsz:∀c∈css,c.length=sz:=fun c hc=>by
        obtain⟨i,hi⟩:=List.mem_iff_getElem?.1 hc;have hil:=(List.getElem?_eq_some_iff.1 hi).1;obtain⟨cs,x,pl,y,q1,q2,q3,_⟩:=h3 i (by omega);rw[hi]at q1
        injection q1 with q1
        subst q1;exact (vY q3).1
       obtain⟨f1,f2⟩:=um css hsz;subst h2;refine⟨az,⟨some a,cap,css,rfl,hcap,⟨some a,cap,rfl,hlen,by rw[f1,h1],.inr ⟨a,rfl,fun j u e=>?_⟩⟩,h1,hsz,fun i x y hx hy=>?_⟩,fun hw=>⟨?_,fun y hy=>?_⟩,?_⟩
       ·
        obtain⟨i,q,c,hi,hq,rfl⟩:=f2 j u e;have hil:=(List.getElem?_eq_some_iff.1 hi).1;obtain⟨cs,x,pl,y,q1,q2,q3,_⟩:=h3 i (by omega);rw[hi]at q1
        injection q1 with q1
        subst q1;have:=(vY q3).2 q u hq;rwa[add_add]at this
       ·
        have hil:=(List.getElem?_eq_some_iff.1 hy).1;obtain⟨cs,x',pl,y',q1,q2,q3,q4,q5,_⟩:=h3 i hil;rw[hx]at q1;rw[hy]at q2
        injection q1 with q1
        injection q2 with q2
        subst q1 q2;exact q5
       ·
        simp only[DataW.weights,ht,List.all_cons,Bool.and_eq_true,decide_eq_true_eq]at hw;rw[hb]at hw;have:=hw.1;simp only[List.length_map,hl]at this;exact Nat.le_trans (Nat.mul_le_mul_right _ (Nat.le_add_right _ _)) this
       ·
        obtain⟨i,hi⟩:=List.mem_iff_getElem?.1 hy;have hil:=(List.getElem?_eq_some_iff.1 hi).1;obtain⟨cs,x',pl,y',q1,q2,q3,q4,q5,q6,_⟩:=h3 i hil;rw[hi]at q2
        injection q2 with q2
        subst q2;refine q6 ?_;simp only[DataW.weights,ht,List.all_cons,Bool.and_eq_true,List.all_append]at hw;have hw:=hw.2.1;rw[List.all_eq_true]at hw ⊢;exact fun z hz=>hw z (oZ _ x' (List.mem_map.2 ⟨_,List.mem_of_getElem? q4,rfl⟩) z hz)
       ·
        rw[hB.slice]
        have:=Ff (bk:=bk) (B:=B) az (elems.map (·.1)) (by simp[hl]) fun i y x hy hx=>by
         have hil:=(List.getElem?_eq_some_iff.1 hy).1;obtain⟨cs,x',pl,y',q1,q2,q3,q4,q5,q6,q7⟩:=h3 i hil;rw[hy]at q2
         injection q2 with q2
         subst q2;rw[List.getElem?_map,q4]at hx
         injection hx with hx
         subst hx;exact q7
        omega
    ·
     cases hh
end
end Go.Proofs.YtkjabaihpkbfhaaGreat.K
namespace Go.Proofs.YtkjabaihpkbfhaaGreat.K
open Go Go.RowKit
variable {ds:List Deferred}
theorem uZ (b:Nat):∀(xs:List Value) (k:Nat) (pre rest:List Value),pre.length=b+k→xs.length≤rest.length→
 (xs.zipIdx k).foldl (fun (cs:Array Value) (x:Value×Nat)=>cs.setIfInBounds (b+x.2) x.1) (pre++rest).toArray=(pre++xs++rest.drop xs.length).toArray
 | [],k,pre,rest,_,_=>by simp
 | x::xs,k,pre,[],_,h=>by simp at h
 | x :: xs, k, pre, y :: rest, hp, h => by
   simp only[List.zipIdx_cons,List.foldl_cons]
   have e:(pre++y::rest).toArray.setIfInBounds (b+k) x=((pre++[x])++rest).toArray:=by
    simp[List.set_append_right _ _ (show pre.length≤b+k by omega),hp]
   rw[e,uZ b xs (k+1) (pre++[x]) rest (by simp;omega) (by simpa using h)];simp
theorem CW (sz:Nat)(vss:List (List Value))(h1:∀vs∈vss,vs.length=sz):∀(i:Nat) (done rest:List Value),done.length=i * sz→rest.length=vss.length * sz→
 Instr.fill (fun i=>some (i * sz,sz)) (done++rest).toArray ((List.range' i vss.length).zip (vss.map fun vs=>Value.agg vs.toArray))=some (done++vss.flatten).toArray:=by
 induction vss with
 | nil=>intro i done rest hd hr;obtain rfl:rest=[]:=List.eq_nil_of_length_eq_zero (by simpa using hr);simp[Instr.fill]
 | cons vs vss ih =>
   intro i done rest hd hr;have hv:=h1 vs (by simp);have hr':rest.length=sz+vss.length * sz:=by rw[hr];simp[Nat.succ_mul];omega
   simp only[List.length_cons,List.range'_succ,List.map_cons,List.zip_cons_cons,Instr.fill,Value.cells,List.size_toArray,List.length_append];rw[if_neg (by simp;omega)];have e:=uZ (i * sz) vs 0 done rest (by omega) (by omega)
   have e2:(vs.toArray.zipIdx).foldl (fun (cs:Array Value) (x:Value×Nat)=>cs.setIfInBounds (i * sz+x.2) x.1) (done++rest).toArray=((done++vs)++rest.drop vs.length).toArray:=by
    rw[←e];simp
   have:=ih (fun x hx=>h1 x (List.mem_cons_of_mem _ hx)) (i+1) (done++vs) (rest.drop vs.length) (by simp[hv,hd,Nat.succ_mul]) (by simp;omega);simp only[List.append_assoc]at this e2;simp only[List.flatten_cons];refine Eq.trans ?_ this
   congr 1
section
variable {P:Program} {w:World} {ρ:Operand→Value} {dd:Option Tmp} {ty:TypeId} {ps:String} {af:Array Edge} {g:Option (Nat×Bool)} {e t:TypeId}
theorem nJ {l:List (Nat×Operand)}{vss:List (List Value)}{z:Value}{by_ len sz:Nat}(ht:P.underlying t=some (.slice e))(hi:dX P e=some (some z,sz,by_))(hzs:z.cells.size=sz)
 (hl:l.map (·.1)=List.range' 0 vss.length) (hv:l.map (fun p=>ρ p.2)=vss.map fun vs=>Value.agg vs.toArray) (hn:len=vss.length) (hsm:len * sz≤16777216) (h1:∀vs∈vss,vs.length=sz) (h0:0<len * sz) :
 (execOp ρ ⟨dd,.buildSlice t len l.toArray,ty,ps,af,g⟩).run P w=.ok (.value (.slice (some ⟨w.heap.size,0,none⟩) len len)) (w.alloc (.cells vss.flatten.toArray e)):=by
 obtain⟨i,hi',hq⟩:=Option.map_eq_some_iff.1 hi;simp only[Prod.mk.injEq]at hq;obtain⟨hz,hsz,hb⟩:=hq;subst hn
 have hp:(l.map fun x=>(x.1,ρ x.2))=(List.range' 0 vss.length).zip (vss.map fun vs=>Value.agg vs.toArray):=by
  rw[←hl,←hv];clear hl hv h1 hsm h0
  induction l with
  | nil=>rfl
  | cons x l ih=>simp[ih]
 have hf:∀arr:Array Value,arr.size=vss.length * sz→Instr.fill (fun i=>some (i * sz,sz)) arr ((List.range' 0 vss.length).zip (vss.map fun vs=>Value.agg vs.toArray))=some vss.flatten.toArray:=fun arr ha=>by
  have:=CW sz vss h1 0 [] arr.toList (by simp) (by simpa using ha);simpa using this
 have hfin:(Instr.buildSlice t vss.length ((List.range' 0 vss.length).zip (vss.map fun vs=>Value.agg vs.toArray)).toArray).run P w=.ok (.slice (some ⟨w.heap.size,0,none⟩) vss.length vss.length) (w.alloc (.cells vss.flatten.toArray e)):=by
  have hf':=hf ((Array.range (vss.length * sz)).map fun i=>z.cells[i % z.cells.size]!) (by simp)
  generalize hxs:((List.range' 0 vss.length).zip (vss.map fun vs=>Value.agg vs.toArray))=xs at hf'
  generalize hN:vss.length=N at *
  have hN0:¬(N * sz=0):=by omega
  have hN2:¬(16777216<N * sz):=by omega
  simp[Instr.buildSlice,run_underlying ht,sizeOf,typeInfo,zeroValue,hi',hsz,hz,hN2,newRow,newObj,Sem.run,go_sem];rw[if_neg hN0];simp only[Value.cells]at hf';rw[hf'];simp[Sem.run,go_sem]
 have he:(execOp ρ ⟨dd,.buildSlice t vss.length l.toArray,ty,ps,af,g⟩)=(Instr.buildSlice t vss.length ((List.range' 0 vss.length).zip (vss.map fun vs=>Value.agg vs.toArray)).toArray).bind fun r=>Sem.pure (Next.value r):=by
  have hm:(l.toArray.map fun (p:Nat×Operand)=>(p.1,ρ p.2))=((List.range' 0 vss.length).zip (vss.map fun vs=>Value.agg vs.toArray)).toArray:=by simp[←hp]
  show (Instr.buildSlice t vss.length (l.toArray.map fun (p:Nat×Operand)=>(p.1,ρ p.2))).bind (fun r=>Sem.pure (Next.value r))=_;rw[hm]
 rw[he,Sem.run_bind',hfin]
 rfl
end
section
variable {P:Program} {ops:Array Oper} {a:Act} {n:Nat} {E:Env} {w W:World} {rest:List Oper} {d:Nat} {Q:Exit→Act→World→Prop} {L:List As} {e t:TypeId} {ty:TypeId} {ps:String} {af:Array Edge}
theorem gF {l:List (Nat×Operand)}{vss:List (List Value)}{z:Value}{by_ len sz:Nat}(I:Ag a n E ds)(hn:Nat.blt d n=true)(hv:lits E 0 l=some (vss.map fun vs=>Value.agg vs.toArray))(ht:P.underlying t=some (.slice e))(hi:dX P e=some (some z,sz,by_))(hzs:z.cells.size=sz)
 (hl:Nat.beq len vss.length=true) (hsm:Nat.ble (len * sz) 16777216=true) (h1:∀vs∈vss,vs.length=sz) (h0:Nat.blt 0 (len * sz)=true)
 (s:Sat W w L) (k:∀A w',Sat W w' (row e sz (.slice A len len) len vss.flatten::L)→∀a',Ag a' n ((d,.slice A len len)::E) ds→wpList P ops Q rest a' w'):wpList P ops Q (⟨some d,.buildSlice t len l.toArray,ty,ps,af,none⟩::rest) a w:=by
 have hl:=Nat.eq_of_beq_eq_true hl;have hsm:=Nat.le_of_ble_eq_true hsm;obtain⟨h3,h4,h5⟩:=rP hv;have h5':l.length=vss.length:=by simpa using h5
 have h00:0<len * sz:=by
  have:=h0;simp[Nat.blt]at this;omega
 have hz0:0<sz:=by
  rcases Nat.eq_zero_or_pos sz with h | h
  ·
   rw[h]at h00;simp at h00
  ·
   exact h
 have hlz:len≤len * sz:=Nat.le_mul_of_pos_right _ hz0;refine yI I rfl rfl hn (nJ (vss:=vss) ht hi hzs (by rw[h4,h5']) ?_ hl hsm h1 h00) (k _ _ ?_)
 ·
  have:=I.mW h3;rw[←this];simp
 ·
  refine (s.alloc _).imp fun h hb=>.inr ⟨_,len,[],(0,0),rfl,Nat.le_refl _,by omega,?_,?_,lM.zero _,by simp only[List.append_nil];exact hb⟩
  all_goals
   have:∀vss:List (List Value),(∀vs∈vss,vs.length=sz)→vss.flatten.length=vss.length * sz:=fun vss=>by
    induction vss with
    | nil=>simp
    | cons v vs ih=>intro h;simp[h v (by simp),ih fun x hx=>h x (List.mem_cons_of_mem _ hx),Nat.succ_mul];omega
   simp[this vss h1,hl]
end
end Go.Proofs.YtkjabaihpkbfhaaGreat.K
namespace Go.Proofs.YtkjabaihpkbfhaaGreat.K
open Go Go.RowKit
variable {ds:List Deferred}
section
variable {P:Program} {fn:Func} {R:Ending→World→Prop} {a:Act} {n:Nat} {E:Env} {w:World}
def sY (tmps:Array Value):ResultVar→Sem Value
 | .tmp t=>pure (tmps.getD t undef)
 | .cell a t=>do loadVar t (←asAddr (tmps.getD a undef))
def mG (P:Program)(w:World)(tmps:Array Value)(r:ResultVar)(v:Value):Prop:=(sY tmps r).run P w=.ok v w
theorem aQ {t:Nat}{v:Value}(I:Ag a n E ds)(hv:find t E=some v):mG P w a.tmps (.tmp t) v:=by
 have:=I.at_ t v hv;simp[mG,sY,go_sem,Array.getD_eq_getD_getElem?,this]
theorem Kb {s t:Nat}{p:Addr}{v:Value}(I:Ag a n E ds)(hv:find s E=some (.pointer (some p)))(ht:flat P t=true)(hc:w.cell? p=some v):mG P w a.tmps (.cell s t) v:=by
 have h:=lj ht w;have:=I.at_ s _ hv;simp[mG,sY,go_sem,Array.getD_eq_getD_getElem?,this,loadVar,h,load,Sem.run,hc]
theorem br {s t:Nat}{p:Addr}{cs:List Value}(I:Ag a n E ds)(hv:find s E=some (.pointer (some p)))(ht:j8 P t=true)(hz:(P.info? t).map (·.size)=some cs.length)(hc:∀j u,cs[j]?=some u→w.cell? (p.add j)=some u):mG P w a.tmps (.cell s t) (.agg cs.toArray):=by
 obtain⟨i,hi,hiz⟩:=Option.map_eq_some_iff.1 hz;have h1:=lF ht w;have h2:=run_loadCellsFrom (P:=P) (w:=w) p cs 0 #[] (by simpa using hc);have:=I.at_ s _ hv;simp[mG,sY,go_sem,Array.getD_eq_getD_getElem?,this,loadVar,h1,sizeOf,typeInfo,hi,hiz,loadCells,h2]
theorem nu (fn:Func)(tmps:Array Value):results fn tmps=(fn.results.mapM (sY tmps)).bind fun vs=>Sem.pure (if h:vs.size=1 then vs[0] else .tuple vs):=by
 have:(fun r=>sY tmps r)=fun (x:ResultVar)=>(match x with | .tmp t=>pure (tmps.getD t undef) | .cell a t=>do loadVar t (←asAddr (tmps.getD a undef)):Sem Value):=by
  funext r;cases r<;>rfl
 show _=(fn.results.mapM (fun r=>sY tmps r)).bind _;rw[this]
 rfl
theorem GV {f:ResultVar→Sem Value}{r:ResultVar}{v:Value}(h1:(f r).run P w=.ok v w):((#[r]:Array ResultVar).mapM f).run P w=.ok #[v] w:=by
 simp[go_sem,h1]
theorem Iw {f:ResultVar→Sem Value}{r s:ResultVar}{v x:Value}(h1:(f r).run P w=.ok v w)(h2:(f s).run P w=.ok x w):((#[r,s]:Array ResultVar).mapM f).run P w=.ok #[v,x] w:=by
 simp[go_sem,h1,h2]
theorem fY {r:ResultVar}{v:Value}(I:Ag a n E)(hr:fn.results=#[r])(hv:mG P w a.tmps r v)(h:R (.returned v) w):bodyPost P fn R .ret a w:=
 ⟨I.defers,v,by rw[nu,hr,Sem.run_bind',GV hv];rfl,h⟩
theorem bO {r s:ResultVar}{v x:Value}(I:Ag a n E)(hr:fn.results=#[r,s])(hv:mG P w a.tmps r v)(hx:mG P w a.tmps s x)(h:R (.returned (.tuple #[v,x])) w):bodyPost P fn R .ret a w:=
 ⟨I.defers,.tuple #[v,x],by rw[nu,hr,Sem.run_bind',Iw hv hx];rfl,h⟩
end
end Go.Proofs.YtkjabaihpkbfhaaGreat.K
namespace Go.Proofs.YtkjabaihpkbfhaaGreat.K
open Go Go.RowKit
variable {ds:List Deferred}
section
variable {P:Program} {w:World} {ρ:Operand→Value} {dd:Option Tmp} {ty:TypeId} {ps:String} {af:Array Edge} {g:Option (Nat×Bool)} {e t:TypeId} {x y:Operand}
theorem run_make {z:Value}{by_ n:Nat}(hx:ρ x=.int .i64 n)(hy:ρ y=.int .i64 n)(ht:P.underlying t=some (.slice e))(hi:dX P e=some (some z,1,by_))(hz:z.cells=#[z])(hn:by_ * n≤140737488355328)(hn2:n≤140737488355328) :
 (execOp ρ ⟨dd,.makeSlice t x y,ty,ps,af,g⟩).run P w=.ok (.value (.slice (some ⟨w.heap.size,0,none⟩) n n)) (w.alloc (.cells (List.replicate n z).toArray e)):=by
 obtain⟨i,hi',hq⟩:=Option.map_eq_some_iff.1 hi;simp only[Prod.mk.injEq]at hq;obtain⟨hz',hsz,hb⟩:=hq;have hw:IntKind.i64.wrap (n:Int)=n:=gA (by simp[IntKind.min,IntKind.signed,IntKind.bits];try omega) (by simp[IntKind.max,IntKind.signed,IntKind.bits];try omega)
 have h1:¬(281474976710656<(by_:Int) * (n:Int)):=by
  rw[show (by_:Int) * (n:Int)=((by_ * n:Nat):Int) from by simp];omega
 have h2:¬(n * by_ > roomBytes):=by rw[Nat.mul_comm];simp[roomBytes];omega
 have h3:¬((n:Int)<0):=by omega
 have hc:(if n * 1=0 then (#[]:Array Value) else #[z]).size=0∨True:=.inr trivial
 have harr:((Array.range n).map fun _=>z)=(List.replicate n z).toArray:=by
  apply Array.ext';simp[List.map_const']
 have hz2:(fun x:Nat=>z.cells[x % z.cells.size]!)=fun _=>z:=by
  funext x;rw[hz];simp[Nat.mod_one]
 have hN:∃N:Int,N=(n:Int):=⟨_,rfl⟩;obtain⟨N,hN⟩:=hN;have hNn:N.toNat=n:=by omega
 rw[←hN]at hx hy hw h1 h3;have h4:¬(n * by_ > 140737488355328):=by rw[Nat.mul_comm];omega
 simp[execOp,hx,hy,Instr.makeSlice,run_underlying ht,asInt,typeInfo,sizeOf,zeroValue,hi',hsz,hb,hz',hw,h1,h3,hNn,askRoom,roomBytes,newRow,newObj,Sem.run,go_sem]
 by_cases h0:n=0
 ·
  subst h0;simp[hNn,h3,h4,show N=0 from by omega]
  congr 2
  apply Array.ext';simp[Array.range]
 ·
  simp[h0,h3,h4,show ¬N≤0 from by omega,show ¬N<0 from by omega];show w.alloc (.cells (Array.map (fun x=>z.cells[x % z.cells.size]!) (Array.range n)) e)=_;rw[hz2,harr];simp
end
section
variable {P:Program} {ops:Array Oper} {a:Act} {n:Nat} {E:Env} {w W:World} {rest:List Oper} {d:Nat} {Q:Exit→Act→World→Prop} {L:List As} {e t:TypeId} {ty:TypeId} {ps:String} {af:Array Edge} {x y:Operand}
theorem Kh {z:Value}{by_ m:Nat}(I:Ag a n E ds)(hn:Nat.blt d n=true)(hx:fE E x=some (.int .i64 m))(hy:fE E y=some (.int .i64 m))(ht:P.underlying t=some (.slice e))(hi:dX P e=some (some z,1,by_))(hz:z.cells=#[z])(h1:by_ * m≤140737488355328)(h2:m≤140737488355328)
 (s:Sat W w L) (k:∀b w',Sat W w' (a6 b (.cells (List.replicate m z).toArray e)::L)→∀a',Ag a' n ((d,.slice (some ⟨b,0,none⟩) m m)::E) ds→wpList P ops Q rest a' w'):wpList P ops Q (⟨some d,.makeSlice t x y,ty,ps,af,none⟩::rest) a w:=
 yI I rfl rfl hn (run_make (I.ev hx) (I.ev hy) ht hi hz h1 h2) (k _ _ (s.alloc _))
theorem I0 {b j:Nat}{p:Addr}{v u:Value}{cs:List Value}{t':TypeId}(I:Ag a n E ds)(hx:fE E x=some (.pointer (some p)))(hp:p=⟨b,j,none⟩)(hy:fE E y=some v)(ht:flat P t=true)(h1:(P.info? t).map (·.size)=some 1)(hv:v.oneCell'=true)
 (s:Sat W w (a6 b (.cells cs.toArray t' (0,0))::L)) (hj:cs[j]?=some u) (k:∀w',Sat W w' (a6 b (.cells (cs.set j v).toArray t' (0,0))::L)→wpList P ops Q rest a w'):wpList P ops Q (⟨none,.store t x y,ty,ps,af,none⟩::rest) a w:=by
 subst hp;refine kK I hx hy ht h1 hv s (u:=u) (by rw[mj];simpa using hj) fun w' h=>k w' ?_;simpa using h
theorem Sat.GI {b m:Nat}{cs:List Value}(s:Sat W w (a6 b (.cells cs.toArray e (0,0))::L))(hl:cs.length=m)(hm:m≤9223372036854775807):Sat W w (row e 1 (.slice (some ⟨b,0,none⟩) m m) m cs::L):=
 s.imp fun h hb=>.inr ⟨b,m,[],(0,0),rfl,Nat.le_refl _,hm,by simpa using hl,by simpa using hl,lM.zero _,by simpa[a6]using hb⟩
end
end Go.Proofs.YtkjabaihpkbfhaaGreat.K
namespace Go.Proofs.YtkjabaihpkbfhaaGreat.K
open Go Go.RowKit
variable {ds:List Deferred}
def Am:Nat→List As→List As
 | 0,L=>L
 | _+1,[]=>[]
 | n + 1, A :: L => match Am n L with
   | []=>[A]
   | B::L'=>B::A::L'
theorem vF:∀(n:Nat) (L:List As),L.Perm (Am n L)
 | 0,L=>.refl _
 | n+1,[]=>.refl _
 | n + 1, A :: L => by
   have h:=vF n L;unfold Am;cases hq:Am n L with
   | nil=>rw[hq]at h;exact .cons A h
   | cons B L'=>rw[hq]at h;exact (List.Perm.cons A h).trans (.swap ..)
section
variable {W w w':World} {L M:List As}
theorem Sat.p (s:Sat W w L)(n:Nat):Sat W w (Am n L):=s.perm (vF n L)
theorem Sat.vg {W0 w1:World}{L0 M:List As}{b j:Nat}{cs:Array Value}{t:TypeId}{fr:Nat×Nat}{v:Value}(s0:Sat W0 w (a6 b (.cells cs t fr)::L0))(s:Sat w w1 M)(h:nth cs.toList j=some v):w1.cell? ⟨b,j,none⟩=some v:=by
 have hc:=s0.cell (j:=j) h;rw[s.below.cell (World.block_lt_of_cell? _ _ hc)];exact hc
theorem holds.take:∀ {M L:List As} {h:Hp},holds (M++L) h→holds M h
 | [],_,_,_=>trivial
 | _::_,_,_,⟨h1,h2,a,s1,s2,x,y⟩=>⟨h1,h2,a,s1,s2,x,y.take⟩
theorem Sat.cw (s:Sat W w (M++L))(M':List As)(e:M=M':=by rfl):Sat W w M':=by
 subst e;exact⟨s.below,let ⟨h,x,y⟩:=s.own;⟨h,x.take,y⟩⟩
def lB (W:World)(L:List As)(w:World):Prop:=∃M,Sat W w (M++L)
theorem lB.sat (h:lB W L w):Sat W w L:=let ⟨_,hM⟩:=h;hM.bx
variable {P:Program} {Q:Exit→Act→World→Prop} {a:Act}
theorem aN {c:Code}{n:Nat}(h:c.wp P (Exit.then (Code.rounds P c Q n) Q) a w):Code.rounds P c Q (n+1) a w:=h
theorem fP {sz n c k:Nat}{p:Addr}{cs:List Value}{u:Value}(hR:Rd w sz (.slice (some p) n c) n cs)(h:cs[k]?=some u):w.cell? (p.add k)=some u:=hR.cell h
theorem bQ {sz n c k j:Nat}{p:Addr}{cs:List Value}{u:Value}(hR:Rd w sz (.slice (some p) n c) n cs)(h:cs[k+j]?=some u):w.cell? ((p.add k).add j)=some u:=by
 rw[add_add];exact hR.cell h
theorem bu {α:Type}{f:α→Value}{xs:List α}{i:Nat}{x:α}(h:xs[i]?=some x):(xs.map f)[i * 1]?=some (f x):=by
 rw[Nat.mul_one,List.getElem?_map,h];rfl
theorem Sat.setRow {e sz n c k:Nat}{p:Addr}{cs:List Value}(s:Sat W w (row e sz (.slice (some p) n c) n cs::L))(hk:k<cs.length)(v:Value) :
 Sat W (w.setCell (p.add k) v) (row e sz (.slice (some p) n c) n (cs.set k v)::L)∧w.cell? (p.add k)=cs[k]?∧w.frozen? (p.add k)=false:=by
 obtain⟨bl,h,⟨h1,h2,a,s1,s2,q,r⟩,t'⟩:=s;rcases q with ⟨hv,_⟩ | ⟨b,cap,sp,fr,hv,hn,hcap,hl,hl2,hfr,hb⟩
 ·
  cases hv
 ·
  injection hv with e1 e2 e3
  injection e1 with e1
  subst e1 e3;have S:Sat W w (a6 b (.cells (cs++sp).toArray e fr)::L):=⟨bl,h,⟨h1,h2,a,s1,s2,hb,r⟩,t'⟩;rw[add_lit,Nat.zero_add];have hk2:k<c * sz:=by rw[←hl2];simp;omega
  refine⟨?_,?_,S.yh hfr hk2⟩
  ·
   have:=S.store (j:=k) v;refine this.imp fun h hh=>.inr ⟨b,c,sp,fr,rfl,hn,hcap,by simpa using hl,by simpa using hl2,hfr,?_⟩
   rw[show h b=_ from hh]
   congr 2
   rw[List.setIfInBounds_toArray,List.set_append_left _ _ hk]
  ·
   rw[S.pJ (v:=cs[k]) (by simp[List.getElem?_append_left hk])];simp[hk]
end
section
variable {P:Program} {ops:Array Oper} {Q:Exit→Act→World→Prop} {a:Act} {n:Nat} {E:Env} {w w' W:World} {rest:List Oper} {d:Nat}
variable {ty t tx e:TypeId} {ps:String} {af:Array Edge} {x y:Operand} {L:List As}
theorem EI {ρ:Operand→Value}{dd:Option Tmp}{g:Option (Nat×Bool)}{m c sz k:Nat}{p q:Addr}{v:Value}{cs:List Value}(hx:ρ x=.pointer (some q))(hp:q=p.add k)(hy:ρ y=v)(ht:flat P t=true)(h1:(P.info? t).map (·.size)=some 1)(hv:v.oneCell'=true)
 (s:Sat W w (row e sz (.slice (some p) m c) m cs::L)) (hk:k<cs.length):(execOp ρ ⟨dd,.store t x y,ty,ps,af,g⟩).run P w=.ok .skip (w.setCell (p.add k) v):=by
 subst hp;obtain⟨_,h2,h3⟩:=s.setRow hk v;exact tD hx hy ht h1 hv (h2.trans (List.getElem?_eq_getElem hk)) h3
theorem JY {m c sz:Nat}(k:Nat){p q:Addr}{v:Value}{cs:List Value}(I:Ag a n E ds)(hx:fE E x=some (.pointer (some q)))(hp:q=p.add k)(hy:fE E y=some v)(ht:flat P t=true)(h1:(P.info? t).map (·.size)=some 1)(hv:v.oneCell'=true)
 (s:Sat W w (row e sz (.slice (some p) m c) m cs::L)) (hk:k<cs.length) (kk:∀w',Sat W w' (row e sz (.slice (some p) m c) m (cs.set k v)::L)→wpList P ops Q rest a w'):wpList P ops Q (⟨none,.store t x y,ty,ps,af,none⟩::rest) a w:=
 HK I rfl rfl (EI (I.ev hx) hp (I.ev hy) ht h1 hv s hk) (kk _ (s.setRow hk v).1)
end
section
variable {P:Program} {w:World} {ρ:Operand→Value} {d:Option Tmp} {ty:TypeId} {ps:String} {af:Array Edge} {g:Option (Nat×Bool)}
variable {t yt s:TypeId} {x y:Operand} {a b:Int} {k k':IntKind}
theorem xO {u:TypeDesc}(hs:P.underlying s=some u)(ht:P.underlying t=some (.int k')):(convert s t (.int k a)).run P w=.ok (.int k' (k'.wrap a)) w:=by
 unfold convert;rw[Sem.run_bind,run_underlying hs];simp only[Result.andThen_ok];rw[Sem.run_bind,run_underlying ht];simp only[Result.andThen_ok];cases u<;>rfl
theorem fg {u:TypeDesc}(hx:ρ x=.int k a)(hs:P.underlying s=some u)(ht:P.underlying t=some (.int k')):(execOp ρ ⟨d,.convert s t x,ty,ps,af,g⟩).run P w=.ok (.value (.int k' (k'.wrap a))) w:=by
 simp[execOp,hx,xO hs ht,go_sem]
theorem nk {u:TypeDesc}(hx:ρ x=.int k a)(hs:P.underlying s=some u)(ht:P.underlying t=some (.int k'))(h0:k'.min≤a)(h1:a≤k'.max):(execOp ρ ⟨d,.convert s t x,ty,ps,af,g⟩).run P w=.ok (.value (.int k' a)) w:=by
 rw[fg hx hs ht,gA h0 h1]
theorem Ho (hx:ρ x=.int k a)(hy:ρ y=.int k' b)(h0:0≤b):(execOp ρ ⟨d,.binOp .shl t x y yt,ty,ps,af,g⟩).run P w=.ok (.value (.int k (k.wrap (a * 2 ^ (min b.toNat k.bits))))) w:=by
 have:¬b<0:=by omega
 simp[execOp,hx,hy,eqGuard,binOp,Op.shift,this,go_sem]
theorem j6 (hx:ρ x=.int k a)(hy:ρ y=.int k' b)(h0:0≤b):(execOp ρ ⟨d,.binOp .shr t x y yt,ty,ps,af,g⟩).run P w=.ok (.value (.int k (a.fdiv (2 ^ (min b.toNat k.bits))))) w:=by
 have:¬b<0:=by omega
 simp[execOp,hx,hy,eqGuard,binOp,Op.shift,this,go_sem]
theorem Jc (hx:ρ x=.int k a)(hy:ρ y=.int k b):(execOp ρ ⟨d,.binOp .and t x y yt,ty,ps,af,g⟩).run P w=.ok (.value (.int k (k.wrap (BitVec.ofInt k.bits a &&& BitVec.ofInt k.bits b).toNat))) w:=by
 simp[execOp,hx,hy,eqGuard,binOp,Op.intBits,go_sem]
theorem JU (hx:ρ x=.int k a)(hy:ρ y=.int k b):(execOp ρ ⟨d,.binOp .or t x y yt,ty,ps,af,g⟩).run P w=.ok (.value (.int k (k.wrap (BitVec.ofInt k.bits a ||| BitVec.ofInt k.bits b).toNat))) w:=by
 simp[execOp,hx,hy,eqGuard,binOp,Op.intBits,go_sem]
theorem kH (hx:ρ x=.int .i64 a)(hy:ρ y=.int .i64 b)(hb:0<b)(h0:0≤a)(h1:a≤9223372036854775807):(execOp ρ ⟨d,.binOp .quo t x y yt,ty,ps,af,g⟩).run P w=.ok (.value (.int .i64 (a / b))) w:=by
 have e:a.tdiv b=a / b:=Int.tdiv_eq_ediv_of_nonneg h0;have h2:0≤a / b:=Int.ediv_nonneg h0 (by omega);have h3:a / b≤a:=Int.ediv_le_self _ h0;rw[H3 hx hy (by omega),e,gA (by simp[IntKind.min,IntKind.signed,IntKind.bits];omega) (by simp[IntKind.max,IntKind.signed,IntKind.bits];omega)]
theorem gj (hx:ρ x=.int .i64 a)(hy:ρ y=.int .i64 b)(hb:0<b)(h0:0≤a):(execOp ρ ⟨d,.binOp .rem t x y yt,ty,ps,af,g⟩).run P w=.ok (.value (.int .i64 (a % b))) w:=by
 rw[I9 hx hy (by omega),Int.tmod_eq_emod_of_nonneg h0]
end
section
variable {P:Program} {w:World} {ρ:Operand→Value} {d:Option Tmp} {ty:TypeId} {ps:String} {af:Array Edge} {g:Option (Nat×Bool)}
theorem ai {x:Operand}{vs:List Value}{i:Nat}{v:Value}(hx:ρ x=.tuple vs.toArray)(hi:nth vs i=some v):(execOp ρ ⟨d,.extract x i,ty,ps,af,g⟩).run P w=.ok (.value v) w:=
 DX hx (by rw[mj]at hi;simpa using hi)
end
section
variable {P:Program} {w:World} {ρ:Operand→Value} {d:Option Tmp} {ty t e:TypeId} {ps:String} {af:Array Edge} {g:Option (Nat×Bool)} {x y:Operand}
theorem fG {b j len sz:Nat}{k:IntKind}{i:Int}(hx:ρ x=.pointer (some ⟨b,j,none⟩))(hy:ρ y=.int k i)(ht:P.underlying t=some (.array len e))(hz:(P.info? e).map (·.size)=some sz)(h0:0≤i)(h1:i<len) :
 (execOp ρ ⟨d,.indexAddr t x y,ty,ps,af,g⟩).run P w=.ok (.value (.pointer (some ⟨b,j+i.toNat * sz,none⟩))) w:=by
 obtain⟨q,hq,rfl⟩:=Option.map_eq_some_iff.1 hz;simp[execOp,hx,hy,Instr.indexAt,run_underlying ht,asIntOf,Instr.sureAddr,sizeOf,typeInfo,hq,h0,h1,go_sem]
end
section
variable {P:Program} {ops:Array Oper} {Q:Exit→Act→World→Prop} {a:Act} {n:Nat} {E:Env} {w w' W:World} {rest:List Oper}
variable {ty t:TypeId} {ps:String} {af:Array Edge} {x y:Operand} {L:List As}
theorem fS {b j:Nat}{v u:Value}{cs cs':List Value}{t':TypeId}(I:Ag a n E ds)(hx:fE E x=some (.pointer (some ⟨b,j,none⟩)))(hy:fE E y=some v)(ht:flat P t=true)(h1:(P.info? t).map (·.size)=some 1)(hv:v.oneCell'=true)
 (s:Sat W w (a6 b (.cells cs.toArray t' (0,0))::L)) (hj:nth cs j=some u) (hc:cs.set j v=cs') (k:∀w',Sat W w' (a6 b (.cells cs'.toArray t' (0,0))::L)→wpList P ops Q rest a w'):wpList P ops Q (⟨none,.store t x y,ty,ps,af,none⟩::rest) a w:=by
 subst hc;refine kK I hx hy ht h1 hv s (u:=u) (by simpa using hj) fun w' h=>k w' ?_;simpa using h
theorem HP {i:Nat}{K:Act→World→Prop}{b j:Nat}{v u:Value}{cs cs':List Value}{t':TypeId}(I:Ag a n E ds)(hi':ops[i]?=some ⟨none,.store t x y,ty,ps,af,none⟩)(hx:fE E x=some (.pointer (some ⟨b,j,none⟩)))(hy:fE E y=some v)(ht:flat P t=true)(h1:(P.info? t).map (·.size)=some 1)(hv:v.oneCell'=true)
 (s:Sat W w (a6 b (.cells cs.toArray t' (0,0))::L)) (hj:nth cs j=some u) (hc:cs.set j v=cs') (k:∀w',Sat W w' (a6 b (.cells cs'.toArray t' (0,0))::L)→K a w'):wpOp P ops Q i K a w:=by
 subst hc;refine eW I hi' hx hy ht h1 hv s (u:=u) (by simpa using hj) fun w' h=>k w' ?_;simpa using h
theorem HZ {b o:Nat}{vs cs cs':List Value}{t':TypeId}(I:Ag a n E ds)(hx:fE E x=some (.pointer (some ⟨b,o,none⟩)))(hy:fE E y=some (.agg vs.toArray))(h1:(P.info? t).map (·.size)=some vs.length)(hv:∀v∈vs,v.oneCell'=true)
 (s:Sat W w (a6 b (.cells cs.toArray t' (0,0))::L)) (hl:Nat.ble (o+vs.length) cs.length=true) (hc:cs.take o++vs++cs.drop (o+vs.length)=cs')
 (k:∀w',Sat W w' (a6 b (.cells cs'.toArray t' (0,0))::L)→wpList P ops Q rest a w'):wpList P ops Q (⟨none,.store t x y,ty,ps,af,none⟩::rest) a w:=by
 subst hc;exact HD I hx hy h1 hv s (Nat.le_of_ble_eq_true hl) k
theorem cH {i:Nat}{K:Act→World→Prop}{b o:Nat}{vs cs cs':List Value}{t':TypeId}(I:Ag a n E ds)(hi':ops[i]?=some ⟨none,.store t x y,ty,ps,af,none⟩)(hx:fE E x=some (.pointer (some ⟨b,o,none⟩)))(hy:fE E y=some (.agg vs.toArray))(h1:(P.info? t).map (·.size)=some vs.length)(hv:∀v∈vs,v.oneCell'=true)
 (s:Sat W w (a6 b (.cells cs.toArray t' (0,0))::L)) (hl:Nat.ble (o+vs.length) cs.length=true) (hc:cs.take o++vs++cs.drop (o+vs.length)=cs')
 (k:∀w',Sat W w' (a6 b (.cells cs'.toArray t' (0,0))::L)→K a w'):wpOp P ops Q i K a w:=by
 subst hc;exact KA I hi' hx hy h1 hv s (Nat.le_of_ble_eq_true hl) k
end
def aj (b:UInt8):Value:=.int .u8 (b.toNat:Int)
def b8 (x:Int):UInt8:=UInt8.ofNat x.toNat
theorem Hr {x:Int}(h0:0≤x)(h1:x≤255):((b8 x).toNat:Int)=x:=by
 unfold b8;simp[UInt8.toNat_ofNat'];omega
theorem Fg {x:Int}(h0:0≤x)(h1:x≤255):Value.int .u8 x=aj (b8 x):=by unfold aj;rw[Hr h0 h1]
theorem AS (bs:List UInt8):∀u∈bs.map aj,u.oneCell'=true:=fun u hu=>by
 obtain⟨b,_,rfl⟩:=List.mem_map.1 hu;rfl
theorem B3 {s t:ByteArray}(h:s.data.toList=t.data.toList):s=t:=by
 cases s;cases t;simp at h;simp[h]
section
variable {P:Program} {w:World} {ρ:Operand→Value} {d:Option Tmp} {ty:TypeId} {ps:String} {af:Array Edge} {g:Option (Nat×Bool)}
variable {t yt s:TypeId} {x y:Operand} {bs:List UInt8} {n:Nat} {v:Value}
theorem Cj {src e:TypeId}(hx:ρ x=v)(hs:P.underlying src=some (.slice e))(he:P.underlying e=some (.int .u8))(ht:P.underlying t=some .string)(hR:Rd w 1 v n (bs.map aj)) :
 (execOp ρ ⟨d,.convert src t x,ty,ps,af,g⟩).run P w=.ok (.value (.string ⟨bs.toArray⟩)) w:=by
 have hstr:strOfNums (bs.map fun b=>(b.toNat:Int))=⟨bs.toArray⟩:=by
  simp only[strOfNums,List.map_map]
  congr 1
  rw[show ((fun n:Int=>UInt8.ofNat n.toNat) ∘ fun b:UInt8=>(b.toNat:Int))=id from by funext b;simp];simp
 have hrun:(convert src t v).run P w=.ok (.string ⟨bs.toArray⟩) w:=by
  obtain⟨A,c,hv,hc,hl,h⟩:=hR;subst hv;simp only[List.length_map,Nat.mul_one]at hl
  have nilcase:∀l,n=0→(convert src t (.slice (some l) n c)).run P w=.ok (.string ⟨bs.toArray⟩) w:=fun l h0=>by
   have HQ:bs=[]:=List.eq_nil_of_length_eq_zero (by omega);subst HQ h0;rw[run_convert_bytes_string w src t e _ 0 c hs he ht]
   have hlc:(loadCells l 0).run P w=.ok ([]:List Value).toArray w:=by
    have:=run_loadCells_list (P:=P) w l [] (fun j u hj=>by simp at hj);simpa using this
   rw[run_bytesToString w l 0 c [] (by simpa using hlc)]
   rfl
  cases A with
  | none =>
    have h0:n=0:=by
     rcases h with h | ⟨p,hp,_⟩
     ·
      exact h
     ·
      cases hp
    subst h0;obtain rfl:bs=[]:=List.eq_nil_of_length_eq_zero hl;exact run_convert_bytes_nil w src e hs he 0 c t ht
  | some l =>
    rcases h with h0 | ⟨p,hp,hh⟩
    ·
     exact nilcase l h0
    ·
     injection hp with hp
     subst hp
     have hlc:(loadCells l n).run P w=.ok (bs.map aj).toArray w:=by
      have:=run_loadCells_list (P:=P) w l (bs.map aj) hh;simpa[hl]using this
     rw[run_convert_bytes_string w src t e _ n c hs he ht,run_bytesToString w l n c (bs.map fun b=>(b.toNat:Int)) (by rw[hlc];simp[aj,Function.comp_def]),foldl_push_bytes,←hstr];simp[strOfNums,ByteArray.empty,ByteArray.emptyWithCapacity]
     rfl
 simp[execOp,hx,hrun,go_sem]
theorem jl {a b:ByteArray}(hx:ρ x=.string a)(hy:ρ y=.string b):(execOp ρ ⟨d,.binOp .eql t x y yt,ty,ps,af,g⟩).run P w=.ok (.value (.bool (decide (a=b)))) w:=by
 rw[IT hx hy]
 congr 3
 rw[Bool.eq_iff_iff];simp only[beq_iff_eq,decide_eq_true_eq];exact⟨fun h=>B3 (by simpa[ByteArray.toList_eq]using h),fun h=>by rw[h]⟩
theorem x9 {a b:ByteArray}(hx:ρ x=.string a)(hy:ρ y=.string b):(execOp ρ ⟨d,.binOp .neq t x y yt,ty,ps,af,g⟩).run P w=.ok (.value (.bool (decide (a≠b)))) w:=by
 rw[Ie hx hy]
 congr 3
 rw[Bool.eq_iff_iff];simp only[Bool.not_eq_true',decide_eq_true_eq,ne_eq,beq_eq_false_iff_ne];exact⟨fun h h'=>h (by rw[h']),fun h h'=>h (B3 (by simpa[ByteArray.toList_eq]using h'))⟩
end
end Go.Proofs.YtkjabaihpkbfhaaGreat.K
namespace Go.Proofs.YtkjabaihpkbfhaaGreat.K
open Go Go.RowKit
def sX (P:Program)(t:TypeId)(cs:List Value)(off:Nat):Option Value:=
 match j8 P t,flat P t with
 | true,_=>(P.info? t).map fun i=>.agg ((cs.drop off).take i.size).toArray
 | _,true=>nth cs off
 | _,_=>none
def Ek (P:Program)(ev:TypeId→Value→Value→Option Bool):List Field→List Value→List Value→Option Bool
 | [],_,_=>some true
 | [f], xs, ys => match decide (f.name = "_"), sX P f.type xs f.offset, sX P f.type ys f.offset with
   | false,some a,some b=>ev f.type a b
   | _,_,_=>none
 | f :: g :: l, xs, ys => match decide (f.name = "_"), sX P f.type xs f.offset, sX P f.type ys f.offset with
   | false, some a, some b => match ev f.type a b, Ek P ev (g :: l) xs ys with
     | some r,some q=>some (r && q)
     | _,_=>none
   | _,_,_=>none
def eqv (P:Program):Nat→TypeId→Value→Value→Option Bool
 | 0,_,_,_=>none
 | d + 1, t, x, y => match P.underlying t, x, y with
   | some .bool,.bool a,.bool b=>some (a == b)
   | some (.int _),.int k a,.int k' b=>if k=k' then some (a == b) else none
   | some .string,.string a,.string b=>some (a == b)
   | some (.struct fs), .agg xs, .agg ys => match P.stoodInHeld t with
     | true=>none
     | false=>Ek P (eqv P d) fs.toList xs.toList ys.toList
   | _,_,_=>none
theorem AT (a b:ByteArray):(a == b)=true↔a=b:=by
 cases a with | mk x=>
 cases b with | mk y=>
 have h:((⟨x⟩:ByteArray) == ⟨y⟩)=(x == y):=rfl;rw[h,beq_iff_eq];exact⟨fun h=>by rw[h],fun h=>by injection h⟩
section
variable {P:Program} {w:World}
theorem y5 {t off:Nat}{cs:Array Value}{v:Value}(h:sX P t cs.toList off=some v):(part t cs off).run P w=.ok v w:=by
 unfold sX at h;cases ha:j8 P t with
 | true =>
   rw[ha]at h;obtain⟨i,hi,rfl⟩:=Option.map_eq_some_iff.1 h;have h1:=lF ha w
   have he:cs.extract off (off+i.size)=((cs.toList.drop off).take i.size).toArray:=by
    apply Array.ext';simp[List.drop_take]
   simp[part,h1,sizeOf,typeInfo,hi,go_sem,he]
 | false =>
   rw[ha]at h;cases hf:flat P t with
   | false=>rw[hf]at h;cases h
   | true =>
     rw[hf]at h;have h1:=lj hf w;have h:nth cs.toList off=some v:=h;rw[mj]at h;simp at h;simp[part,h1,h,go_sem]
theorem FZ:∀(d:Nat) (t:TypeId) (x y:Value) (r:Bool),eqv P d t x y=some r→∀D,d≤D→(Op.equalIn D t x y).run P w=.ok r w:=by
 intro d
 induction d with
 | zero=>intro t x y r h;simp[eqv]at h
 | succ d ih =>
   have hfs:∀(D:Nat),d≤D→∀(fs:List Field) (xs ys:Array Value) (r:Bool),Ek P (eqv P d) fs xs.toList ys.toList=some r→(Op.eqFields D xs ys fs).run P w=.ok r w:=by
    intro D hD fs
    induction fs with
    | nil=>intro xs ys r h;simp[Ek]at h;subst h;simp[Op.eqFields]
    | cons f l ihl =>
      intro xs ys r h
      have key:∀a b q,decide (f.name= "_")=false→sX P f.type xs.toList f.offset=some a→sX P f.type ys.toList f.offset=some b→eqv P d f.type a b=some q→∀s,(Op.eqFields D xs ys l).run P w=.ok s w→(Op.eqFields D xs ys (f::l)).run P w=.ok (q && s) w:=by
       intro a b q hn ha hb he s hs;have hn':f.name≠ "_":=by simpa using hn
       rw[Op.eqFields];simp only[if_pos hn',Sem.run_bind,y5 (w:=w) ha,y5 (w:=w) hb,ih _ _ _ _ he D hD,Result.andThen_ok];cases q
       ·
        simp
       ·
        simpa using hs
      cases l with
      | nil =>
        unfold Ek at h
        split at h
        ·
         rename_i a b hn ha hb;have:=key a b r hn ha hb h true (by simp[Op.eqFields]);rwa[Bool.and_true]at this
        ·
         cases h
      | cons g l =>
        unfold Ek at h
        split at h
        ·
         rename_i a b hn ha hb
         split at h
         ·
          rename_i q s he hs;simp at h;subst h;exact key a b q hn ha hb he s (ihl xs ys s hs)
         ·
          cases h
        ·
         cases h
   intro t x y r h D hD;obtain⟨D,rfl⟩:∃k,D=k+1:=⟨D-1,by omega⟩;unfold eqv at h
   split at h
   ·
    rename_i hu;simp at h;subst h;unfold Op.equalIn;simp[run_underlying hu,go_sem]
   ·
    rename_i hu
    split at h
    ·
     rename_i hk;simp at h;subst h hk;unfold Op.equalIn;simp[run_underlying hu,go_sem]
    ·
     cases h
   ·
    rename_i hu;simp at h;subst h;unfold Op.equalIn;simp[run_underlying hu,go_sem]
   ·
    rename_i fs xs ys hu
    split at h
    ·
     cases h
    ·
     rename_i hst;have hf:P.fieldsOf t=fs:=by simp[Program.fieldsOf,hu]
     rw[run_equalIn_struct (P:=P) w D t xs ys (by rw[hf];exact hu) hst,hf];exact hfs D (by omega) _ _ _ _ h
   ·
    cases h
variable {ρ:Operand→Value} {d:Option Tmp} {ty:TypeId} {ps:String} {af:Array Edge} {g:Option (Nat×Bool)} {t yt:TypeId} {x y:Operand} {a b:List Value} {c:Prop} [Decidable c]
theorem yi (hx:ρ x=.agg a.toArray)(hy:ρ y=.agg b.toArray)(hg:P.eqGuardType P.depth t=false)(h:eqv P 20 t (.agg a.toArray) (.agg b.toArray)=some (decide c)):(execOp ρ ⟨d,.binOp .neq t x y yt,ty,ps,af,g⟩).run P w=.ok (.value (.bool (decide (¬c)))) w:=by
 have:=FZ (w:=w) 20 t _ _ _ h Op.maxDepth (by decide);simp[execOp,hx,hy,eqGuard,binOp,Op.equal,this,hg,go_sem]
end
end Go.Proofs.YtkjabaihpkbfhaaGreat.K
namespace Go.Proofs.YtkjabaihpkbfhaaGreat.K
open Go Go.RowKit
variable {ds:List Deferred}
section
variable {P:Program} {W w:World} {L:List As}
theorem add_zero' (p:Addr):p.add 0=p:=by unfold Addr.add;simp
theorem sB (A:Option Addr)(c sz:Nat):jW A c sz 0=A:=by
 unfold jW
 split
 ·
  rfl
 ·
  cases A with
  | none=>rfl
  | some p=>simp[add_zero']
theorem lP {b:Nat}{t:TypeId}{fr:Nat×Nat}:∀(news:List Value) (i o:Nat) (olds rest:List Value) (W:World) (L:List As) (w:World),lM fr (olds++rest).length→olds.length=o+i→news.length≤rest.length→(∀v∈news,v.oneCell'=true)→Sat W w (a6 b (.cells (olds++rest).toArray t fr)::L)→
 ∃w',(storeCells ⟨b,o,none⟩ news i).run P w=.ok () w'∧Sat W w' (a6 b (.cells (olds++news++rest.drop news.length).toArray t fr)::L)
 | [],i,o,olds,rest,W,L,w,_,_,_,_,s=>⟨w,by simp[storeCells,go_sem],by simpa using s⟩
 | v :: news, i, o, olds, rest, W, L, w, hf, ho, hl, h1, s => by
   cases rest with
   | nil=>simp at hl
   | cons x rest =>
     have hcell:w.cell? ⟨b,o+i,none⟩=some x:=s.pJ (by simp[←ho]);have hfree:w.frozen? ⟨b,o+i,none⟩=false:=s.yh hf (by simp;omega);have s1:=s.store (j:=o+i) v
     have he:(olds++x::rest).toArray.setIfInBounds (o+i) v=(olds++[v]++rest).toArray:=by
      rw[List.setIfInBounds_toArray,List.set_append_right _ _ (by omega),ho];simp
     rw[he]at s1;obtain⟨w',hr,s'⟩:=lP news (i+1) o (olds++[v]) rest W L _ (by simpa using hf) (by simp;omega) (by simpa using hl) (fun u hu=>h1 u (List.mem_cons_of_mem _ hu)) s1;refine⟨w',?_,by simpa using s'⟩;have hv:=h1 v (by simp)
     have hst:(store (⟨b,o+i,none⟩:Addr) v).run P w=.ok () (w.setCell ⟨b,o+i,none⟩ v):=by
      cases v<;>simp[Value.oneCell']at hv<;>simp[store,Sem.run,hcell,hfree,go_sem]
     rw[storeCells,add_lit];simp only[Sem.run_bind,hst,Result.andThen_ok,hr]
theorem p4 {e sz n c k:Nat}{p:Addr}{cs news:List Value}(s:Sat W w (row e sz (.slice (some p) n c) n cs::L))(hk:k+news.length≤cs.length)(h1:∀v∈news,v.oneCell'=true) :
 ∃w',(storeCells (p.add k) news 0).run P w=.ok () w'∧Sat W w' (row e sz (.slice (some p) n c) n (cs.take k++news++cs.drop (k+news.length))::L):=by
 obtain⟨bl,h,⟨h1',h2,a,s1,s2,q,r⟩,t'⟩:=s;rcases q with ⟨hv,_⟩ | ⟨b,cap,sp,fr,hv,hn,hcap,hl,hl2,hfr,hb⟩
 ·
  cases hv
 ·
  injection hv with e1 e2 e3
  injection e1 with e1
  subst e1 e3
  have S:Sat W w (a6 b (.cells (cs.take k++(cs.drop k++sp)).toArray e fr)::L):=by
   rw[←List.append_assoc,List.take_append_drop];exact⟨bl,h,⟨h1',h2,a,s1,s2,hb,r⟩,t'⟩
  rw[add_lit,Nat.zero_add];obtain⟨w',hr,s'⟩:=lP (P:=P) news 0 k (cs.take k) (cs.drop k++sp) W L w (by rw[←List.append_assoc,List.take_append_drop,hl2];exact hfr) (by simp;omega) (by simp;omega) h1 S;refine⟨w',hr,s'.imp fun h hh=>.inr ⟨b,c,sp,fr,rfl,hn,hcap,?_,?_,hfr,?_⟩⟩
  ·
   simp;omega
  ·
   simp at hl2 ⊢;omega
  ·
   rw[show h b=_ from hh]
   congr 2
   rw[List.drop_append_of_le_length (by simp;omega),List.drop_drop];simp[Nat.add_comm]
theorem Sat.shrink {e sz n c i:Nat}{A:Option Addr}{cs:List Value}(s:Sat W w (row e sz (.slice A n c) n cs::L))(hi:i≤n)(I:A≠none):Sat W w (row e sz (.slice A i c) i (cs.take (i * sz))::L):=by
 refine s.imp fun h q=>?_;rcases q with ⟨hv,hn,hc⟩ | ⟨b,cap,sp,fr,hv,hn,hcap,hl,hl2,hfr,hb⟩
 ·
  injection hv with e1 e2 e3;exact absurd e1 I
 ·
  injection hv with e1 e2 e3
  subst e1 e3;have hle:i * sz≤n * sz:=Nat.mul_le_mul_right _ hi;refine .inr ⟨b,c,cs.drop (i * sz)++sp,fr,rfl,by omega,hcap,by simp;omega,?_,hfr,?_⟩
  ·
   simp at hl2 ⊢;omega
  ·
   rw[←List.append_assoc,List.take_append_drop];exact hb
end
end Go.Proofs.YtkjabaihpkbfhaaGreat.K
namespace Go.Proofs.YtkjabaihpkbfhaaGreat.K
open Go Go.RowKit
variable {ds:List Deferred}
def wD (ops:Array Oper):Nat→Nat→Nat→Bool
 | 0,_,_=>false
 | f + 1, j, i => match ops[j]? with
   | some o=>o.after.any fun e=>Region.binds .any e && (Nat.beq e.on i || wD ops f e.on i)
   | none=>false
def rJ (ops:Array Oper)(l:Array Bool):Bool:=
 (List.range ops.size).all fun k=>!(l.getD k false) || (match ops[k]? with
  | some o=>o.after.all fun e=>!(Region.binds .any e) || l.getD e.on false
  | none=>true)
def sx (ops:Array Oper)(l:Array Bool):Prop:=∀(k:Nat) (o:Oper),ops[k]?=some o→l.getD k false=true→∀e∈o.after,Region.binds .any e=true→l.getD e.on false=true
theorem DS {ops:Array Oper}{l:Array Bool}(h:rJ ops l=true):sx ops l:=fun k o ho hk e he hb=>by
 have hlt:k<ops.size:=(Array.getElem?_eq_some_iff.1 ho).1;have:=List.all_eq_true.1 h k (by simpa using hlt);rw[ho,hk]at this;simp only[Bool.not_true,Bool.false_or]at this;have:=Array.all_eq_true'.1 this e he;rw[hb]at this;simpa using this
section
variable {ops:Array Oper} {l:Array Bool}
theorem vT (hc:sx ops l):∀(f j i:Nat),wD ops f j i=true→l.getD j false=true→l.getD i false=true
 | 0,_,_,h,_=>by cases h
 | f + 1, j, i, h, hj => by
   unfold wD at h;cases ho:ops[j]? with
   | none=>rw[ho]at h;cases h
   | some o =>
     rw[ho]at h;obtain⟨e,he,hh⟩:=Array.any_eq_true'.1 h;simp only[Bool.and_eq_true,Bool.or_eq_true]at hh;have:=hc j o ho hj e he hh.1;rcases hh.2 with h1 | h1
     ·
      rw[←Nat.eq_of_beq_eq_true h1];exact this
     ·
      exact vT hc f e.on i h1 this
theorem D2 (hc:sx ops l){f j i:Nat}(h:wD ops f j i=true)(hr:j∈Region.ready .any ops l):l.getD i false=true:=by
 cases f with
 | zero=>cases h
 | succ f =>
   obtain⟨_,o,ho,hall⟩:=mem_ready.1 hr;unfold wD at h;rw[ho]at h;obtain⟨e,he,hh⟩:=Array.any_eq_true'.1 h;simp only[Bool.and_eq_true,Bool.or_eq_true]at hh;have:=hall e he hh.1;rcases hh.2 with h1 | h1
   ·
    rw[←Nat.eq_of_beq_eq_true h1];exact this
   ·
    exact vT hc f e.on i h1 this
theorem z6 (hc:sx ops l){j:Nat}(hr:j∈Region.ready .any ops l):sx ops (l.setIfInBounds j true):=fun k o ho hk e he hb=>by
 by_cases hkj:k=j
 ·
  subst hkj;obtain⟨_,o',ho',hall⟩:=mem_ready.1 hr;rw[ho]at ho';cases ho';exact getD_set_true (hall e he hb)
 ·
  rw[getD_set_ne false (Ne.symm hkj)]at hk;exact getD_set_true (hc k o ho hk e he hb)
variable {P:Program} {Q:Exit→Act→World→Prop} {S:World→Prop} {X:List Nat}
def bz (P:Program)(ops:Array Oper)(Q:Exit→Act→World→Prop)(S:World→Prop)(X:List Nat):Nat→Array Bool→Act→World→Prop
 | 0,listed,a,w=>Region.ready .any ops listed=[]∧Q .normal a w
 | fuel + 1, listed, a, w =>
   (Region.ready .any ops listed=[]→Q .normal a w)∧
   ∀i∈Region.ready .any ops listed,wpOp P ops Q i (fun a' w'=>(X.contains i=true∨(S w→S w'))∧bz P ops Q S X fuel (listed.setIfInBounds i true) a' w') a w
theorem uH:∀(fuel:Nat) (listed:Array Bool) (a:Act) (w:World),bz P ops Q S X fuel listed a w→wpAny P .any ops Q fuel listed a w
 | 0,_,_,_,h=>h
 | fuel+1,_,_,_,h=>⟨h.1,fun i hi=>wpOp_mono (fun a' w' h'=>uH fuel _ a' w' h'.2) (h.2 i hi)⟩
theorem x4 {i:Nat}{oi:Oper}{v:Value}(hi:ops[i]?=some oi)(hsel:∀(j:Nat) (o:Oper) cs b,ops[j]?=some o→o.op≠.select cs b)
 (hQ:∀c a w,Q (.panic c) (a.put oi.dst v) w→Q (.panic c) a w) {F:Nat} (hX:∀x∈X,wD ops F x i=true) :
 ∀ (fuel : Nat) (listed : Array Bool) (a : Act) (w : World), sx ops listed →
   (∀j oj,ops[j]?=some oj→j≠i→listed.getD j true=false→(∀e∈oj.after,Region.binds .any e=true→e.on≠i)→oi.apart ops oj=true)→
   i∈Region.ready .any ops listed→YieldsIf P ops S oi v a→S w→
   bz P ops Q S X fuel (listed.setIfInBounds i true) (a.put oi.dst v) w→bz P ops Q S X (fuel+1) listed a w:=by
 intro fuel
 induction fuel with
 | zero =>
   intro listed a w _ _ hr hy O H;refine⟨fun h=>(by rw[h]at hr;cases hr),fun j hj=>?_⟩
   by_cases hji:j=i
   ·
    subst hji;exact hy.wpOp hi O ⟨.inr id,H⟩
   ·
    have:=ready_mono hj hji;rw[H.1]at this;cases this
 | succ fuel ih =>
   intro listed a w hcl hfree hr hy O H;refine⟨fun h=>(by rw[h]at hr;cases hr),fun j hj=>?_⟩
   by_cases hji:j=i
   ·
    subst hji;exact hy.wpOp hi O ⟨.inr id,H⟩
   ·
    have h1:=H.2 j (ready_mono hj hji);obtain⟨hjun,oj,hoj,hall⟩:=mem_ready.1 hj;have hiun:listed.getD i true=false:=(mem_ready.1 hr).1
    have hiun':listed.getD i false=false:=by
     rcases Nat.lt_or_ge i listed.size with h' | h'
     ·
      simp[Array.getD,h']at hiun ⊢;exact hiun
     ·
      simp[Array.getD,Nat.not_lt.2 h']at hiun
    have hjX:X.contains j=false:=by
     cases hc:X.contains j with
     | false=>rfl
     | true =>
       have:=D2 hcl (hX j (by simpa using hc)) hj;rw[hiun']at this;cases this
    have hnot:∀e∈oj.after,Region.binds .any e=true→e.on≠i:=fun e he hb heq=>by
     have h1:=hall e he hb;rw[heq,hiun']at h1;cases h1
    have h2:=wpOp_putIf hoj (hfree j oj hoj hji hjun hnot) (fun cs b=>hsel i oi cs b hi) (fun cs b=>hsel j oj cs b hoj) hQ hy h1
    have hfree':∀k ok,ops[k]?=some ok→k≠i→(listed.setIfInBounds j true).getD k true=false→
     (∀e∈ok.after,Region.binds .any e=true→e.on≠i)→oi.apart ops ok=true:=fun k ok hk hki hun hno=>by
     refine hfree k ok hk hki ?_ hno
     by_cases hjk:j=k
     ·
      subst hjk;exact hjun
     ·
      rw[getD_set_ne true hjk]at hun;exact hun
    refine wpOp_mono (fun a' w' h3=>?_) h2
    have hSw:S w':=by
     rcases h3.2.1 with h | h
     ·
      rw[hjX]at h;cases h
     ·
      exact h O
    refine⟨.inr fun _=>hSw,ih (listed.setIfInBounds j true) a' w' (z6 hcl hj) hfree' (ready_mono hr (Ne.symm hji)) h3.1 hSw ?_⟩;rw[Array.setIfInBounds_comm _ _ hji];exact h3.2.2
theorem zS {i:Nat}{oi:Oper}{v:Value}(hi:ops[i]?=some oi)(hsel:∀(j:Nat) (o:Oper) cs b,ops[j]?=some o→o.op≠.select cs b)
 (hQ:∀c a w,Q (.panic c) (a.put oi.dst v) w→Q (.panic c) a w) :
 ∀ (fuel : Nat) (listed : Array Bool) (a : Act) (w : World),
   (∀j oj,ops[j]?=some oj→j≠i→listed.getD j true=false→(∀e∈oj.after,Region.binds .any e=true→e.on≠i)→oi.apart ops oj=true)→
   i∈Region.ready .any ops listed→YieldsIf P ops (fun _=>True) oi v a→
   bz P ops Q S X fuel (listed.setIfInBounds i true) (a.put oi.dst v) w→bz P ops Q S X (fuel+1) listed a w:=by
 intro fuel
 induction fuel with
 | zero =>
   intro listed a w _ hr hy H;refine⟨fun h=>(by rw[h]at hr;cases hr),fun j hj=>?_⟩
   by_cases hji:j=i
   ·
    subst hji;exact hy.wpOp hi trivial ⟨.inr id,H⟩
   ·
    have:=ready_mono hj hji;rw[H.1]at this;cases this
 | succ fuel ih =>
   intro listed a w hfree hr hy H;refine⟨fun h=>(by rw[h]at hr;cases hr),fun j hj=>?_⟩
   by_cases hji:j=i
   ·
    subst hji;exact hy.wpOp hi trivial ⟨.inr id,H⟩
   ·
    have h1:=H.2 j (ready_mono hj hji);obtain⟨hjun,oj,hoj,hall⟩:=mem_ready.1 hj;have hiun:listed.getD i true=false:=(mem_ready.1 hr).1
    have hiun':listed.getD i false=false:=by
     rcases Nat.lt_or_ge i listed.size with h' | h'
     ·
      simp[Array.getD,h']at hiun ⊢;exact hiun
     ·
      simp[Array.getD,Nat.not_lt.2 h']at hiun
    have hnot:∀e∈oj.after,Region.binds .any e=true→e.on≠i:=fun e he hb heq=>by
     have h1:=hall e he hb;rw[heq,hiun']at h1;cases h1
    have h2:=wpOp_putIf hoj (hfree j oj hoj hji hjun hnot) (fun cs b=>hsel i oi cs b hi) (fun cs b=>hsel j oj cs b hoj) hQ hy h1
    have hfree':∀k ok,ops[k]?=some ok→k≠i→(listed.setIfInBounds j true).getD k true=false→
     (∀e∈ok.after,Region.binds .any e=true→e.on≠i)→oi.apart ops ok=true:=fun k ok hk hki hun hno=>by
     refine hfree k ok hk hki ?_ hno
     by_cases hjk:j=k
     ·
      subst hjk;exact hjun
     ·
      rw[getD_set_ne true hjk]at hun;exact hun
    refine wpOp_mono (fun a' w' h3=>⟨h3.2.1,ih (listed.setIfInBounds j true) a' w' hfree' (ready_mono hr (Ne.symm hji)) h3.1 ?_⟩) h2;rw[Array.setIfInBounds_comm _ _ hji];exact h3.2.2
theorem nD {i:Nat}{oi:Oper}{v:Value}{fuel:Nat}{listed:Array Bool}{a:Act}{w:World}(hi:ops[i]?=some oi)
 (hs:Region.noSelect ops=true) (hf:Region.free .any ops listed i=true) (hr:(Region.ready .any ops listed).contains i=true)
 (hQ:∀c a w,Q (.panic c) (a.put oi.dst v) w→Q (.panic c) a w) (hy:YieldsIf P ops (fun _=>True) oi v a)
 (h:bz P ops Q S X fuel (listed.setIfInBounds i true) (a.put oi.dst v) w):bz P ops Q S X (fuel+1) listed a w:=
 zS hi (Region.noSelect_spec hs) hQ fuel listed a w (Region.free_spec hi hf) (by simpa using hr) hy h
theorem zf {i:Nat}{oi:Oper}{v:Value}{fuel:Nat}{listed:Array Bool}{a:Act}{w:World}(hi:ops[i]?=some oi)
 (hs:Region.noSelect ops=true) (hf:Region.free .any ops listed i=true) (hr:(Region.ready .any ops listed).contains i=true) (hc:rJ ops listed=true) (hX:X.all (fun x=>wD ops ops.size x i)=true)
 (hQ:∀c a w,Q (.panic c) (a.put oi.dst v) w→Q (.panic c) a w) (hy:YieldsIf P ops S oi v a) (O:S w)
 (h:bz P ops Q S X fuel (listed.setIfInBounds i true) (a.put oi.dst v) w):bz P ops Q S X (fuel+1) listed a w:=
 x4 hi (Region.noSelect_spec hs) hQ (F:=ops.size) (fun x hx=>List.all_eq_true.1 hX x hx) fuel listed a w (DS hc) (Region.free_spec hi hf) (by simpa using hr) hy O h
theorem pV {rs:List Nat}{fuel:Nat}{listed:Array Bool}{a:Act}{w:World}(hr:Region.ready .any ops listed=rs)(hne:rs≠[])
 (h:∀i∈rs,wpOp P ops Q i (fun a' w'=>(X.contains i=true∨(S w→S w'))∧bz P ops Q S X fuel (listed.setIfInBounds i true) a' w') a w):bz P ops Q S X (fuel+1) listed a w:=
 ⟨fun h0=>absurd (hr ▸ h0) hne,hr ▸ h⟩
theorem ah {listed:Array Bool}{a:Act}{w:World}(hr:Region.ready .any ops listed=[])(h:Q .normal a w) :
 ∀fuel,bz P ops Q S X fuel listed a w
 | 0=>⟨hr,h⟩
 | _+1=>⟨fun _=>h,by rw[hr];simp⟩
end
section
variable {P:Program} {ops:Array Oper} {a:Act} {n:Nat} {E:Env} {w W:World} {o:Oper} {v:Value} {d i fuel:Nat} {c:Prop} [Decidable c] {S:World→Prop} {Q:Exit→Act→World→Prop} {listed:Array Bool} {X:List Nat} {L:List As}
theorem jo {id:Nat}{l:List Oper}(X:List Nat)(S:World→Prop)(hm:P.follows .mixedOrders=true)
 (h:bz P l.toArray Q S X l.length (Array.replicate l.length false) a w.drew):(Code.region id l.toArray true).wp P Q a w:=
 wp_region_any hm (uH _ _ _ _ (by simpa using h))
theorem bf {id:Nat}{l:List Oper}(X:List Nat)(O:Sat W w L)(hm:P.follows .mixedOrders=true)
 (h:bz P l.toArray Q (lB W L) X l.length (Array.replicate l.length false) a w.drew):(Code.region id l.toArray true).wp P Q a w:=
 jo X (lB W L) hm h
theorem KC (i:Nat)(I:Ag a n E ds)(hp:eS Q)(hi:ops[i]?=some o)(hw:Region.wanted o (yielded ops a.tmps)=true)(hd:o.dst=some d)(hn:Nat.blt d n=true)(hs:Region.noSelect ops=true)(hf:Region.free .any ops listed i=true)
 (hrd:(Region.ready .any ops listed).contains i=true) (hc:rJ ops listed=true) (hX:X.all (fun x=>wD ops ops.size x i)=true) (O:S w) (hr:∀w,S w→(execOp a.eval o).run P w=.ok (.value v) w)
 (k:∀a',Ag a' n ((d,v)::E) ds→bz P ops Q S X fuel (listed.setIfInBounds i true) a' w):bz P ops Q S X (fuel+1) listed a w:=by
 refine zf hi hs hf hrd hc hX (fun c a w h=>hp c a w _ _ h) (.inl ⟨hw,hr⟩) O ?_;rw[dI hd];exact k _ (I.put hn v)
theorem p1 (i:Nat)(I:Ag a n E ds)(hp:eS Q)(hi:ops[i]?=some o)(hg:o.guard=none)(hd:o.dst=some d)(hn:Nat.blt d n=true)(hs:Region.noSelect ops=true)(hf:Region.free .any ops listed i=true)
 (hrd:(Region.ready .any ops listed).contains i=true) (hr:∀w,(execOp a.eval o).run P w=.ok (.value v) w)
 (k:∀a',Ag a' n ((d,v)::E) ds→bz P ops Q S X fuel (listed.setIfInBounds i true) a' w):bz P ops Q S X (fuel+1) listed a w:=by
 refine nD hi hs hf hrd (fun c a w h=>hp c a w _ _ h) (.inl ⟨by simp[Region.wanted,hg],fun w _=>hr w⟩) ?_;rw[dI hd];exact k _ (I.put hn v)
theorem zh (i:Nat)(I:Ag a n E ds)(hp:eS Q)(hi:ops[i]?=some o)(hg:o.guard=none)(hd:o.dst=some d)(hn:Nat.blt d n=true)(hs:Region.noSelect ops=true)(hf:Region.free .any ops listed i=true)
 (hrd:(Region.ready .any ops listed).contains i=true) (hr:∀w,(execOp a.eval o).run P w=.ok (.value (.bool (decide c))) w)
 (kt:c→∀a',Ag a' n ((d,.bool true)::E) ds→bz P ops Q S X fuel (listed.setIfInBounds i true) a' w) (kf:¬c→∀a',Ag a' n ((d,.bool false)::E) ds→bz P ops Q S X fuel (listed.setIfInBounds i true) a' w):bz P ops Q S X (fuel+1) listed a w:=by
 by_cases h:c
 ·
  exact p1 i I hp hi hg hd hn hs hf hrd (fun w=>c5 (hr w) h) (kt h)
 ·
  exact p1 i I hp hi hg hd hn hs hf hrd (fun w=>dz (hr w) h) (kf h)
theorem Kl (i:Nat)(I:Ag a n E ds)(hp:eS Q)(hi:ops[i]?=some o)(hg:o.guard=none)(hd:o.dst=some d)(hn:Nat.blt d n=true)(hs:Region.noSelect ops=true)(hf:Region.free .any ops listed i=true)
 (hrd:(Region.ready .any ops listed).contains i=true) {b:Bool} (hr:∀w,(execOp a.eval o).run P w=.ok (.value (.bool b)) w)
 (kt:b=true→∀a',Ag a' n ((d,.bool true)::E) ds→bz P ops Q S X fuel (listed.setIfInBounds i true) a' w) (kf:b=false→∀a',Ag a' n ((d,.bool false)::E) ds→bz P ops Q S X fuel (listed.setIfInBounds i true) a' w):bz P ops Q S X (fuel+1) listed a w:=by
 cases b with
 | true=>exact p1 i I hp hi hg hd hn hs hf hrd hr (kt rfl)
 | false=>exact p1 i I hp hi hg hd hn hs hf hrd hr (kf rfl)
theorem HM (i:Nat)(I:Ag a n E ds)(hp:eS Q)(hi:ops[i]?=some o)(hw:Region.wanted o (yielded ops a.tmps)=true)(hd:o.dst=some d)(hn:Nat.blt d n=true)(hs:Region.noSelect ops=true)(hf:Region.free .any ops listed i=true)
 (hrd:(Region.ready .any ops listed).contains i=true) (hr:∀w,(execOp a.eval o).run P w=.ok (.value v) w)
 (k:∀a',Ag a' n ((d,v)::E) ds→bz P ops Q S X fuel (listed.setIfInBounds i true) a' w):bz P ops Q S X (fuel+1) listed a w:=by
 refine nD hi hs hf hrd (fun c a w h=>hp c a w _ _ h) (.inl ⟨hw,fun w _=>hr w⟩) ?_;rw[dI hd];exact k _ (I.put hn v)
theorem DE (i:Nat)(I:Ag a n E ds)(hp:eS Q)(hi:ops[i]?=some o)(hw:Region.wanted o (yielded ops a.tmps)=true)(hd:o.dst=some d)(hn:Nat.blt d n=true)(hs:Region.noSelect ops=true)(hf:Region.free .any ops listed i=true)
 (hrd:(Region.ready .any ops listed).contains i=true) (hr:∀w,(execOp a.eval o).run P w=.ok (.value (.bool (decide c))) w)
 (kt:c→∀a',Ag a' n ((d,.bool true)::E) ds→bz P ops Q S X fuel (listed.setIfInBounds i true) a' w) (kf:¬c→∀a',Ag a' n ((d,.bool false)::E) ds→bz P ops Q S X fuel (listed.setIfInBounds i true) a' w):bz P ops Q S X (fuel+1) listed a w:=by
 by_cases h:c
 ·
  exact HM i I hp hi hw hd hn hs hf hrd (fun w=>c5 (hr w) h) (kt h)
 ·
  exact HM i I hp hi hw hd hn hs hf hrd (fun w=>dz (hr w) h) (kf h)
theorem D7 (i:Nat)(I:Ag a n E ds)(hp:eS Q)(hi:ops[i]?=some o)(hw:Region.wanted o (yielded ops a.tmps)=true)(hd:o.dst=some d)(hn:Nat.blt d n=true)(hs:Region.noSelect ops=true)(hf:Region.free .any ops listed i=true)
 (hrd:(Region.ready .any ops listed).contains i=true) {b:Bool} (hr:∀w,(execOp a.eval o).run P w=.ok (.value (.bool b)) w)
 (kt:b=true→∀a',Ag a' n ((d,.bool true)::E) ds→bz P ops Q S X fuel (listed.setIfInBounds i true) a' w) (kf:b=false→∀a',Ag a' n ((d,.bool false)::E) ds→bz P ops Q S X fuel (listed.setIfInBounds i true) a' w):bz P ops Q S X (fuel+1) listed a w:=by
 cases b with
 | true=>exact HM i I hp hi hw hd hn hs hf hrd hr (kt rfl)
 | false=>exact HM i I hp hi hw hd hn hs hf hrd hr (kf rfl)
theorem KD (i:Nat)(I:Ag a n E ds)(hp:eS Q)(hi:ops[i]?=some o)(hw:Region.wanted o (yielded ops a.tmps)=false)(hd:o.dst=some d)(hn:Nat.blt d n=true)(hs:Region.noSelect ops=true)(hf:Region.free .any ops listed i=true)
 (hrd:(Region.ready .any ops listed).contains i=true)
 (k:∀a',Ag a' n ((d,undef)::E) ds→bz P ops Q S X fuel (listed.setIfInBounds i true) a' w):bz P ops Q S X (fuel+1) listed a w:=by
 refine nD hi hs hf hrd (fun c a w h=>hp c a w _ _ h) (.inr ⟨hw,rfl⟩) ?_;rw[dI hd];exact k _ (I.put hn undef)
theorem aE (i:Nat)(hrd:Region.ready .any ops listed=[i])(h:wpOp P ops Q i (fun a' w'=>(X.contains i=true∨(S w→S w'))∧bz P ops Q S X fuel (listed.setIfInBounds i true) a' w') a w):bz P ops Q S X (fuel+1) listed a w:=
 pV hrd (by simp) fun j hj=>by simp at hj;subst hj;exact h
theorem nG (i j:Nat)(hrd:Region.ready .any ops listed=[i,j])(h:wpOp P ops Q i (fun a' w'=>(X.contains i=true∨(S w→S w'))∧bz P ops Q S X fuel (listed.setIfInBounds i true) a' w') a w)
 (h':wpOp P ops Q j (fun a' w'=>(X.contains j=true∨(S w→S w'))∧bz P ops Q S X fuel (listed.setIfInBounds j true) a' w') a w):bz P ops Q S X (fuel+1) listed a w:=
 pV hrd (by simp) fun k hk=>by
  simp at hk;rcases hk with rfl | rfl
  ·
   exact h
  ·
   exact h'
theorem Fi (i j m:Nat)(hrd:Region.ready .any ops listed=[i,j,m])(h:wpOp P ops Q i (fun a' w'=>(X.contains i=true∨(S w→S w'))∧bz P ops Q S X fuel (listed.setIfInBounds i true) a' w') a w)
 (h':wpOp P ops Q j (fun a' w'=>(X.contains j=true∨(S w→S w'))∧bz P ops Q S X fuel (listed.setIfInBounds j true) a' w') a w)
 (h'':wpOp P ops Q m (fun a' w'=>(X.contains m=true∨(S w→S w'))∧bz P ops Q S X fuel (listed.setIfInBounds m true) a' w') a w):bz P ops Q S X (fuel+1) listed a w:=
 pV hrd (by simp) fun k hk=>by
  simp at hk;rcases hk with rfl | rfl | rfl
  ·
   exact h
  ·
   exact h'
  ·
   exact h''
end
section
variable {P:Program} {ops:Array Oper} {a:Act} {n:Nat} {E:Env} {w W:World} {rest:List Oper} {d:Nat} {Q:Exit→Act→World→Prop} {L:List As} {e t:TypeId} {ty:TypeId} {ps:String} {af:Array Edge}
theorem Hq {ρ:Operand→Value}{dd:Option Tmp}{g:Option (Nat×Bool)}{z:Option Value}{by_ sz:Nat}(ht:P.underlying t=some (.slice e))(hi:dX P e=some (z,sz,by_)) :
 (execOp ρ ⟨dd,.buildSlice t 0 [].toArray,ty,ps,af,g⟩).run P w=.ok (.value (.slice (some ⟨w.heap.size,0,none⟩) 0 0)) (w.alloc (.cells #[] e)):=by
 obtain⟨i,hi',hq⟩:=Option.map_eq_some_iff.1 hi;simp only[Prod.mk.injEq]at hq;obtain⟨hz,hsz,hb⟩:=hq
 have hr:(Instr.buildSlice t 0 #[]).run P w=.ok (.slice (some ⟨w.heap.size,0,none⟩) 0 0) (w.alloc (.cells #[] e)):=by
  simp[Instr.buildSlice,run_underlying ht,sizeOf,typeInfo,hi',Instr.fill,newRow,newObj,Sem.run,go_sem]
 have he:(execOp ρ ⟨dd,.buildSlice t 0 [].toArray,ty,ps,af,g⟩)=(Instr.buildSlice t 0 #[]).bind fun r=>Sem.pure (Next.value r):=by
  have hm:((#[]:Array (Nat×Operand)).map fun (p:Nat×Operand)=>(p.1,ρ p.2))=#[]:=by simp
  show (Instr.buildSlice t 0 ((#[]:Array (Nat×Operand)).map fun (p:Nat×Operand)=>(p.1,ρ p.2))).bind (fun r=>Sem.pure (Next.value r))=_;rw[hm]
 rw[he,Sem.run_bind',hr]
 rfl
theorem Sat.FP (s:Sat W w L)(e sz:Nat):Sat W (w.alloc (.cells #[] e)) (row e sz (.slice (some ⟨w.heap.size,0,none⟩) 0 0) 0 []::L):=by
 have:=s.BR e sz 0 #[] (by simp) (by omega);simpa using this
theorem Gj {z:Option Value}{by_ sz:Nat}(I:Ag a n E ds)(hn:Nat.blt d n=true)(ht:P.underlying t=some (.slice e))(hi:dX P e=some (z,sz,by_))(s:Sat W w L)
 (k:∀A w',Sat W w' (row e sz (.slice A 0 0) 0 []::L)→∀a',Ag a' n ((d,.slice A 0 0)::E) ds→wpList P ops Q rest a' w'):wpList P ops Q (⟨some d,.buildSlice t 0 [].toArray,ty,ps,af,none⟩::rest) a w:=
 yI I rfl rfl hn (Hq ht hi) (k _ _ (s.FP e sz))
theorem JK {ρ:Operand→Value}{dd:Option Tmp}{g:Option (Nat×Bool)}{l:List (Nat×Operand)}{vss:List (List Value)}{z:Value}{by_ len sz:Nat}(I:Ag a n E ds)(hv:lits E 0 l=some (vss.map fun vs=>Value.agg vs.toArray))(ht:P.underlying t=some (.slice e))(hi:dX P e=some (some z,sz,by_))(hzs:z.cells.size=sz)
 (hl:Nat.beq len vss.length=true) (hsm:Nat.ble (len * sz) 16777216=true) (h1:∀vs∈vss,vs.length=sz) (h0:Nat.blt 0 (len * sz)=true) (s:Sat W w L) :
 (execOp a.eval ⟨dd,.buildSlice t len l.toArray,ty,ps,af,g⟩).run P w=.ok (.value (.slice (some ⟨w.heap.size,0,none⟩) len len)) (w.alloc (.cells vss.flatten.toArray e))∧Sat W (w.alloc (.cells vss.flatten.toArray e)) (row e sz (.slice (some ⟨w.heap.size,0,none⟩) len len) len vss.flatten::L):=by
 have hl:=Nat.eq_of_beq_eq_true hl;have hsm:=Nat.le_of_ble_eq_true hsm;obtain⟨h3,h4,h5⟩:=rP hv;have h5':l.length=vss.length:=by simpa using h5
 have h00:0<len * sz:=by
  have:=h0;simp[Nat.blt]at this;omega
 have hz0:0<sz:=by
  rcases Nat.eq_zero_or_pos sz with h | h
  ·
   rw[h]at h00;simp at h00
  ·
   exact h
 have hlz:len≤len * sz:=Nat.le_mul_of_pos_right _ hz0;refine⟨nJ (vss:=vss) ht hi hzs (by rw[h4,h5']) ?_ hl hsm h1 h00,?_⟩
 ·
  have:=I.mW h3;rw[←this];simp
 ·
  refine (s.alloc _).imp fun h hb=>.inr ⟨_,len,[],(0,0),rfl,Nat.le_refl _,by omega,?_,?_,lM.zero _,by simp only[List.append_nil];exact hb⟩
  all_goals
   have:∀vss:List (List Value),(∀vs∈vss,vs.length=sz)→vss.flatten.length=vss.length * sz:=fun vss=>by
    induction vss with
    | nil=>simp
    | cons v vs ih=>intro h;simp[h v (by simp),ih fun x hx=>h x (List.mem_cons_of_mem _ hx),Nat.succ_mul];omega
   simp[this vss h1,hl]
theorem xP {i:Nat}{K:Act→World→Prop}{l:List (Nat×Operand)}{vss:List (List Value)}{z:Value}{by_ len sz:Nat}(I:Ag a n E ds)(hi':ops[i]?=some ⟨some d,.buildSlice t len l.toArray,ty,ps,af,none⟩)(hn:Nat.blt d n=true)(hv:lits E 0 l=some (vss.map fun vs=>Value.agg vs.toArray))(ht:P.underlying t=some (.slice e))(hi:dX P e=some (some z,sz,by_))(hzs:z.cells.size=sz)
 (hl:Nat.beq len vss.length=true) (hsm:Nat.ble (len * sz) 16777216=true) (h1:∀vs∈vss,vs.length=sz) (h0:Nat.blt 0 (len * sz)=true)
 (s:Sat W w L) (k:∀A w',Sat W w' (row e sz (.slice A len len) len vss.flatten::L)→∀a',Ag a' n ((d,.slice A len len)::E) ds→K a' w'):wpOp P ops Q i K a w:=
 have h:=JK (dd:=some d) (ty:=ty) (ps:=ps) (af:=af) (g:=none) (ρ:=a.eval) I hv ht hi hzs hl hsm h1 h0 s
 e1 I hi' rfl rfl hn h.1 (k _ _ h.2)
end
end Go.Proofs.YtkjabaihpkbfhaaGreat.K
namespace Go.Proofs.YtkjabaihpkbfhaaGreat.K
open Go Go.RowKit
section
variable {P:Program} {Q:Exit→Act→World→Prop} {a:Act} {w:World}
theorem dx {x y:Code}(J:Act→World→Prop)(h1:x.wp P (Exit.then J Q) a w)(h2:∀a w,J a w→y.wp P Q a w):(Code.seq x y).wp P Q a w:=
 wp_seq (wp_mono h1 fun e a w q=>by
  cases e with
  | normal=>exact h2 _ _ q
  | exit id=>exact q
  | goto l=>exact q
  | ret=>exact q
  | panic c=>exact q
  | outgrown=>exact q)
end
end Go.Proofs.YtkjabaihpkbfhaaGreat.K
namespace Go.Proofs.YtkjabaihpkbfhaaGreat.K
open Go Go.RowKit
variable {ds:List Deferred}
theorem yR {P:Program}{Q:Exit→Act→World→Prop}{a:Act}{w:World}{x y z:Code}(J:Act→World→Prop)(h1:x.wp P (Exit.then (fun a w=>y.wp P (Exit.then J Q) a w) Q) a w)(h2:∀a w,J a w→z.wp P Q a w):(Code.seq x (Code.seq y z)).wp P Q a w:=
 wp_seq (wp_mono h1 fun e a w q=>by
  cases e with
  | normal=>exact dx J q h2
  | exit id=>exact q
  | goto l=>exact q
  | ret=>exact q
  | panic c=>exact q
  | outgrown=>exact q)
inductive AD where
 | seq (y:Code)
 | blk (i:Nat)
 | thn (K:Act→World→Prop)
def post (P:Program)(Q:Exit→Act→World→Prop):List AD→Exit→Act→World→Prop
 | []=>Q
 | .seq y::s=>Exit.then (y.wp P (post P Q s)) (post P Q s)
 | .blk i::s=>Exit.inBlock i (post P Q s)
 | .thn K::s=>Exit.then K (post P Q s)
class zK (P:Program)(Q':Exit→Act→World→Prop)(Q:outParam (Exit→Act→World→Prop))(s:outParam (List AD)):Prop where
 eq:Q'=post P Q s
instance (priority:=10) zK.i0 {P:Program}{Q:Exit→Act→World→Prop}:zK P Q Q []:=⟨rfl⟩
instance (priority:=100) zK.i1 {P:Program}{Q:Exit→Act→World→Prop}{s:List AD}:zK P (post P Q s) Q s:=⟨rfl⟩
instance (priority:=100) zK.i2 {P:Program}{K:Act→World→Prop}{Q' Q:Exit→Act→World→Prop}{s:List AD}[h:zK P Q' Q s]:zK P (Exit.then K Q') Q (.thn K::s):=⟨by cases h.eq;rfl⟩
class G0 (Q':Exit→Act→World→Prop)(P:outParam Program)(Q:outParam (Exit→Act→World→Prop))(s:outParam (List AD)):Prop where
 eq:Q'=post P Q s
instance (priority:=100) G0.i1 {P:Program}{Q:Exit→Act→World→Prop}{s:List AD}:G0 (post P Q s) P Q s:=⟨rfl⟩
instance (priority:=100) G0.i2 {P:Program}{K:Act→World→Prop}{Q' Q:Exit→Act→World→Prop}{s:List AD}[h:G0 Q' P Q s]:G0 (Exit.then K Q') P Q (.thn K::s):=⟨by cases h.eq;rfl⟩
instance (priority:=100) G0.i3 {P:Program}{fn:Func}{R:Ending→World→Prop}:G0 (bodyPost P fn R) P (bodyPost P fn R) []:=⟨rfl⟩
inductive Md where
 | c (c:Code)
 | o (ops:Array Oper) (l:List Oper)
 | e (e:Exit)
def goal (P:Program)(Q:Exit→Act→World→Prop)(n:Nat)(ds:List Deferred)(w:World):Md→List AD→Env→Prop
 | .c c,s,E=>∀a,Ag a n E ds→c.wp P (post P Q s) a w
 | .o ops l,s,E=>∀a,Ag a n E ds→wpList P ops (post P Q s) l a w
 | .e .normal,.thn K::_,E=>∀a,Ag a n E ds→K a w
 | .e e,[],E=>∀a,Ag a n E ds→Q e a w
 | .e e,s,E=>∀a,Ag a n E ds→post P Q s e a w
def Gs (E:Env):Op→Option Value
 | .move x=>fE E x
 | .assign x=>fE E x
 | .pick c x y => match fE E c with
   | some (.bool true)=>fE E x
   | some (.bool false)=>fE E y
   | _=>none
 | _=>none
def zQ:List Oper→Nat→Option Oper
 | [],_=>none
 | o::_,0=>some o
 | _::l,j+1=>zQ l j
def jO (ops:Array Oper)(o:Oper)(E:Env):Option Bool:=
 match o.guard with
 | none=>some true
 | some (j, b) => match zQ ops.toList j with
   | some p => match p.dst with
     | some t => match find t E with
       | some (.bool true)=>some (true == b)
       | some (.bool false)=>some (false == b)
       | some (.tuple _)=>some false
       | _=>none
     | none=>none
   | none=>none
section
variable (P:Program) (Q:Exit→Act→World→Prop) (n:Nat) (ds:List Deferred) (w:World)
def nS:Nat→Md→List AD→Env→Prop
 | 0,m,s,E=>goal P Q n ds w m s E
 | k+1,.c (.seq x y),s,E=>nS k (.c x) (.seq y::s) E
 | k+1,.c (.block i x),s,E=>nS k (.c x) (.blk i::s) E
 | k+1,.c .skip,s,E=>nS k (.e .normal) s E
 | k+1,.c .ret,s,E=>nS k (.e .ret) s E
 | k+1,.c (.exit i),s,E=>nS k (.e (.exit i)) s E
 | k+1,.c (.region i ops false),s,E=>nS k (.o ops ops.toList) s E
 | k + 1, .c (.cond c x y), s, E => match fE E c with
   | some (.bool true)=>nS k (.c x) s E
   | some (.bool false)=>nS k (.c y) s E
   | _=>goal P Q n ds w (.c (.cond c x y)) s E
 | k+1,.o ops [],s,E=>nS k (.e .normal) s E
 | k + 1, .o ops (o :: r), s, E => match o.dst with
   | some d => match Nat.blt d n with
     | true => match jO ops o E with
       | some true => match Gs E o.op with
         | some v=>nS k (.o ops r) s ((d,v)::E)
         | none=>goal P Q n ds w (.o ops (o::r)) s E
       | some false=>nS k (.o ops r) s ((d,undef)::E)
       | none=>goal P Q n ds w (.o ops (o::r)) s E
     | false=>goal P Q n ds w (.o ops (o::r)) s E
   | none=>goal P Q n ds w (.o ops (o::r)) s E
 | k+1,.e .normal,.seq y::s,E=>nS k (.c y) s E
 | k+1,.e .normal,.blk i::s,E=>nS k (.e .normal) s E
 | k + 1, .e (.exit i), .blk j :: s, E => match Nat.beq i j with
   | true=>nS k (.e .normal) s E
   | false=>nS k (.e (.exit i)) s E
 | k+1,.e (.exit i),.seq _::s,E=>nS k (.e (.exit i)) s E
 | k+1,.e (.exit i),.thn _::s,E=>nS k (.e (.exit i)) s E
 | k+1,.e .ret,_::s,E=>nS k (.e .ret) s E
 | k+1,.e (.panic c),_::s,E=>nS k (.e (.panic c)) s E
 | k+1,m,s,E=>goal P Q n ds w m s E
end
section
variable {P:Program} {Q Q':Exit→Act→World→Prop} {n:Nat} {w:World} {s:List AD} {E:Env} {a:Act} {ops:Array Oper} {l r:List Oper} {o:Oper} {d:Nat} {v:Value}
theorem ml {e:Exit}(h:goal P Q n ds w (.e e) s E):∀a,Ag a n E ds→post P Q s e a w:=by
 cases e<;>cases s with
 | nil=>exact h
 | cons f s=>cases f<;>exact h
theorem CF (I:Ag a n E ds)(h:Gs E o.op=some v):(execOp a.eval o).run P w=.ok (.value v) w:=by
 obtain⟨od,op,ty,ps,af,g⟩:=o;cases op with
 | move x=>exact xV (I.ev h)
 | assign x=>exact qQ (I.ev h)
 | pick c x y =>
   simp only[Gs]at h
   split at h
   ·
    rename_i hc;exact E4 (I.ev hc) (I.ev h)
   ·
    rename_i hc;exact zx (I.ev hc) (I.ev h)
   ·
    cases h
 | _=>cases h
theorem mK {l:List Oper}{b:Bool}(I:Ag a n E ds)(h:jO l.toArray o E=some b):Region.wanted o (yielded l.toArray a.tmps)=b:=by
 unfold jO at h
 split at h
 ·
  rename_i hg;cases h;simp[Region.wanted,hg]
 ·
  rename_i j c hg
  have hj:∀(l:List Oper) (j:Nat),zQ l j=l[j]?:=fun l=>by
   induction l with
   | nil=>intro j;rfl
   | cons x l ih => intro j; cases j with
     | zero=>rfl
     | succ j=>simpa[zQ]using ih j
  rw[hj]at h
  split at h
  ·
   rename_i p hp
   split at h
   ·
    rename_i t ht;have hp':l.toArray[j]?=some p:=by simpa using hp
    split at h
    all_goals first | (cases h;rename_i hv;simp[Region.wanted,hg,yielded,hp,ht,I.at_ t _ hv]) | cases h
   ·
    cases h
  ·
   cases h
theorem oB (k:Nat):∀ {m:Md} {s:List AD} {E:Env},nS P Q n ds w k m s E→goal P Q n ds w m s E:=by
 induction k with
 | zero=>intro m s E h;exact h
 | succ k ih =>
   intro m s E h;cases m with
   | c x => cases x with
     | seq x y=>exact fun a I=>wp_seq (ih h a I)
     | block i x=>exact fun a I=>wp_block (ih h a I)
     | skip=>exact fun a I=>wp_skip (ml (ih h) a I)
     | ret=>exact fun a I=>wp_ret (ml (ih h) a I)
     | exit i=>exact fun a I=>wp_exit (ml (ih h) a I)
     | region i ops b => cases b with
       | false=>exact fun a I=>wp_region_list (ih h a I)
       | true=>exact h
     | cond c x y =>
       simp only[nS]at h
       split at h
       ·
        rename_i hc;exact fun a I=>wp_cond_true (I.ev hc) (ih h a I)
       ·
        rename_i hc;exact fun a I=>wp_cond_false (I.ev hc) (ih h a I)
       ·
        exact h
     | _=>exact h
   | o ops l => cases l with
     | nil=>exact fun a I=>wpList_nil (ml (ih h) a I)
     | cons o r =>
       obtain⟨L⟩:=ops;simp only[nS]at h
       split at h
       ·
        rename_i d hd
        split at h
        ·
         rename_i hn
         split at h
         ·
          rename_i hw
          split at h
          ·
           rename_i v hv;exact fun a I=>Dc I (mK I hw) hd hn (CF I hv) (ih h)
          ·
           exact h
         ·
          rename_i hw;exact fun a I=>Kt I (mK I hw) hd hn (ih h)
         ·
          exact h
        ·
         exact h
       ·
        exact h
   | e e =>
     cases e<;>cases s with
     | nil=>exact h
     | cons f s => cases f with
       | seq y=>first | exact fun a I=>ih h a I | exact fun a I=>ml (ih h) a I | exact h
       | blk j =>
         first
         | exact fun a I=>ml (ih h) a I
         | (simp only [nS] at h
            split at h
            ·
             rename_i hb;have:=Nat.eq_of_beq_eq_true hb;subst this;exact fun a I=>Ec (ml (ih h) a I)
            ·
             rename_i hb;exact fun a I=>Bh hb (ml (ih h) a I))
         | exact h
       | thn K=>first | exact fun a I=>ml (ih h) a I | exact h
theorem rC {c:Code}[hp:zK P Q' Q s](k:Nat)(I:Ag a n E ds)(h:nS P Q n ds w k (.c c) s E):c.wp P Q' a w:=by
 rw[hp.eq];exact oB k h a I
theorem rO [hp:zK P Q' Q s](k:Nat)(I:Ag a n E ds)(h:nS P Q n ds w k (.o ops l) s E):wpList P ops Q' l a w:=by
 rw[hp.eq];exact oB k h a I
theorem rE {e:Exit}[hp:G0 Q' P Q s](k:Nat)(I:Ag a n E ds)(h:nS P Q n ds w k (.e e) s E):Q' e a w:=by
 rw[hp.eq];exact ml (oB k h) a I
theorem o1 {w':World}[hp:zK P Q' Q s](k:Nat)(I:Ag a n E ds)(hr:(execOp a.eval o).run P w=.ok (.value v) w')(hk:nS P Q n ds w' k (.o ops r) s ((d,v)::E))
 (hd:o.dst=some d:=by rfl) (hn:Nat.blt d n=true:=by rfl) (hw:jO ops o E=some true:=by rfl):wpList P ops Q' (o::r) a w:=by
 rw[hp.eq];obtain⟨L⟩:=ops;exact Dc I (mK I hw) hd hn hr (oB k hk)
end
end Go.Proofs.YtkjabaihpkbfhaaGreat.K
namespace Go.Proofs.YtkjabaihpkbfhaaGreat.K
open Go Go.RowKit
variable {ds:List Deferred}
class Bn (Q:Exit→Act→World→Prop):Prop where
 ok:eS Q
instance {P:Program}{fn:Func}{R:Ending→World→Prop}:Bn (bodyPost P fn R):=⟨zl⟩
instance {K:Act→World→Prop}{Q:Exit→Act→World→Prop}[h:Bn Q]:Bn (Exit.then K Q):=⟨uq h.ok⟩
instance {i:Nat}{Q:Exit→Act→World→Prop}[h:Bn Q]:Bn (Exit.inBlock i Q):=⟨xu h.ok⟩
theorem rA {P:Program}{Q:Exit→Act→World→Prop}(h:eS Q):∀s:List AD,eS (post P Q s)
 | []=>h
 | .seq _::s=>uq (rA h s)
 | .blk _::s=>xu (rA h s)
 | .thn _::s=>uq (rA h s)
instance {P:Program}{Q:Exit→Act→World→Prop}{s:List AD}[h:Bn Q]:Bn (post P Q s):=⟨rA h.ok s⟩
theorem pk {Q:Exit→Act→World→Prop}[h:Bn Q]:eS Q:=h.ok
theorem F7 {P:Program}{fn:Func}{R:Ending→World→Prop}{c:Code}{a:Act}{w:World}(h:∀Q,Bn Q→(∀e a w,bodyPost P fn R e a w→Q e a w)→c.wp P Q a w):c.wp P (bodyPost P fn R) a w:=h _ ⟨zl⟩ fun _ _ _ h=>h
section
variable (n:Nat) (ops:Array Oper) (G:List Oper→Env→Prop)
def one (n:Nat)(ops:Array Oper)(o:Oper)(E:Env):Option (Nat×Value):=match o.dst with
 | some d => match Nat.blt d n with
   | true => match jO ops o E with
     | some true => match Gs E o.op with
       | some v=>some (d,v)
       | none=>none
     | some false=>some (d,undef)
     | none=>none
   | false=>none
 | none=>none
def wj:Nat→List Oper→Env→Prop
 | 0,l,E=>G l E
 | k + 1, o :: r, E => match one n ops o E with
   | some (d,v)=>wj k r ((d,v)::E)
   | none=>G (o::r) E
 | k+1,[],E=>G [] E
def wo (G:Nat→Array Bool→Env→Prop):List Nat→Nat→Array Bool→Env→Prop
 | [],f,l,E=>G f l E
 | i :: is, f + 1, l, E => match zQ ops.toList i with
   | some o => match one n ops o E with
     | some (d,v)=>wo G is f (l.setIfInBounds i true) ((d,v)::E)
     | none=>G (f+1) l E
   | none=>G (f+1) l E
 | _::_,0,l,E=>G 0 l E
def l0 (ops:Array Oper):List Nat→Array Bool→Bool
 | [],_=>true
 | i::is,l=>Region.noSelect ops && (Region.free .any ops l i && ((Region.ready .any ops l).contains i && l0 ops is (l.setIfInBounds i true)))
end
theorem yr {n:Nat}{ops:Array Oper}{G:List Oper→Env→Prop}(hG:∀o r E d v,one n ops o E=some (d,v)→G r ((d,v)::E)→G (o::r) E):∀ {k:Nat} {l:List Oper} {E:Env},wj n ops G k l E→G l E
 | 0,l,E,h=>h
 | k+1,[],E,h=>h
 | k + 1, o :: r, E, h => by
   simp only[wj]at h
   split at h
   ·
    rename_i d v he;exact hG _ _ _ _ _ he (yr hG h)
   ·
    exact h
theorem Ct {n:Nat}{ops:Array Oper}{G:Nat→Array Bool→Env→Prop}(hG:∀i o f l E d v,zQ ops.toList i=some o→one n ops o E=some (d,v)→l0 ops [i] l=true→G f (l.setIfInBounds i true) ((d,v)::E)→G (f+1) l E):∀ {is:List Nat} {f:Nat} {l:Array Bool} {E:Env},l0 ops is l=true→wo n ops G is f l E→G f l E
 | [],f,l,E,_,h=>by simpa only [wo]using h
 | i::is,0,l,E,_,h=>h
 | i :: is, f + 1, l, E, hf, h => by
   simp only[l0,Bool.and_eq_true]at hf;simp only[wo]at h
   split at h
   ·
    rename_i o ho
    split at h
    ·
     rename_i d v he;exact hG i o f l E d v ho he (by simp only[l0,Bool.and_eq_true,Bool.and_true];exact⟨hf.1,hf.2.1,hf.2.2.1⟩) (Ct hG hf.2.2.2 h)
    ·
     exact h
   ·
    exact h
theorem Cy:∀(l:List Oper) (j:Nat),zQ l j=l[j]?
 | [],j=>rfl
 | _::_,0=>rfl
 | _::l,j+1=>by simpa[zQ]using Cy l j
theorem AH {P:Program}{a:Act}{n:Nat}{E:Env}{ops:Array Oper}{o:Oper}{d:Nat}{v:Value}(I:Ag a n E ds)(h:one n ops o E=some (d,v)) :
 o.dst=some d∧Nat.blt d n=true∧((Region.wanted o (yielded ops a.tmps)=true∧∀w,(execOp a.eval o).run P w=.ok (.value v) w)∨(Region.wanted o (yielded ops a.tmps)=false∧v=undef)):=by
 obtain⟨L⟩:=ops;unfold one at h
 split at h
 ·
  rename_i d' hd
  split at h
  ·
   rename_i hn
   split at h
   ·
    rename_i hw
    split at h
    ·
     rename_i v' hv;cases h;exact⟨hd,hn,.inl ⟨mK I hw,fun w=>CF I hv⟩⟩
    ·
     cases h
   ·
    rename_i hw;cases h;exact⟨hd,hn,.inr ⟨mK I hw,rfl⟩⟩
   ·
    cases h
  ·
   cases h
 ·
  cases h
section
variable {P:Program} {ops:Array Oper} {a:Act} {n:Nat} {E:Env} {w:World} {l r:List Oper} {o:Oper} {d fuel:Nat} {v:Value} {c:Prop} [Decidable c]
variable {C:World→Prop} {Q:Act→Prop}
theorem rQ (k:Nat)(I:Ag a n E ds)(h:wj n ops (fun l E=>∀a,Ag a n E ds→wpQuiet P ops C Q l a) k l E):wpQuiet P ops C Q l a:=
 yr (G:=fun l E=>∀a,Ag a n E ds→wpQuiet P ops C Q l a) (fun o r E d v he hk a I=>by
  obtain⟨hd,hn,⟨hw,hr⟩ | ⟨hw,rfl⟩⟩:=AH (P:=P) I he
  ·
   exact Jr I hw hd hn (fun w _=>hr w) hk
  ·
   exact qS I hw hd hn hk) h a I
theorem rT (k:Nat)(I:Ag a n E ds)(h:wj n ops (fun l E=>∀a,Ag a n E ds→wpStill P ops w Q l a) k l E):wpStill P ops w Q l a:=
 yr (G:=fun l E=>∀a,Ag a n E ds→wpStill P ops w Q l a) (fun o r E d v he hk a I=>by
  obtain⟨hd,hn,⟨hw,hr⟩ | ⟨hw,rfl⟩⟩:=AH (P:=P) I he
  ·
   exact Ko I hw hd hn (hr _) hk
  ·
   exact tS I hw hd hn hk) h a I
theorem p7 (I:Ag a n E ds){b:Bool}(h:jO ops o E=some b):Region.wanted o (yielded ops a.tmps)=b:=by
 obtain⟨L⟩:=ops;exact mK I h
theorem Q1 (k:Nat)(I:Ag a n E ds)(hr:∀w,C w→(execOp a.eval o).run P w=.ok (.value v) w)(hk:wj n ops (fun l E=>∀a,Ag a n E ds→wpQuiet P ops C Q l a) k r ((d,v)::E))
 (hd:o.dst=some d:=by rfl) (hn:Nat.blt d n=true:=by rfl) (hw:jO ops o E=some true:=by rfl):wpQuiet P ops C Q (o::r) a:=
 Jr I (p7 I hw) hd hn hr fun a I=>rQ k I hk
theorem T1 (k:Nat)(I:Ag a n E ds)(hr:(execOp a.eval o).run P w=.ok (.value v) w)(hk:wj n ops (fun l E=>∀a,Ag a n E ds→wpStill P ops w Q l a) k r ((d,v)::E))
 (hd:o.dst=some d:=by rfl) (hn:Nat.blt d n=true:=by rfl) (hw:jO ops o E=some true:=by rfl):wpStill P ops w Q (o::r) a:=
 Ko I (p7 I hw) hd hn hr fun a I=>rT k I hk
end
section
variable {P:Program} {ops:Array Oper} {a:Act} {n:Nat} {E:Env} {w:World} {o:Oper} {v:Value} {d i fuel:Nat} {c:Prop} [Decidable c] {S:World→Prop} {X:List Nat} {Q:Exit→Act→World→Prop} {listed:Array Bool}
theorem rX (is:List Nat)(I:Ag a n E ds)(h:wo n ops (fun f l E=>∀a,Ag a n E ds→bz P ops Q S X f l a w) is fuel listed E)(hf:l0 ops is listed=true:=by kernel_rfl)[hp:Bn Q]:bz P ops Q S X fuel listed a w:=
 Ct (G:=fun f l E=>∀a,Ag a n E ds→bz P ops Q S X f l a w) (fun i o f l E d v hi he hf hk a I=>by
  simp only[l0,Bool.and_eq_true,Bool.and_true]at hf;have hi':ops[i]?=some o:=by obtain⟨L⟩:=ops;rw[Cy]at hi;simpa using hi
  obtain⟨hd,hn,⟨hw,hr⟩ | ⟨hw,rfl⟩⟩:=AH (P:=P) I he
  ·
   exact HM i I hp.ok hi' hw hd hn hf.1 hf.2.1 hf.2.2 hr hk
  ·
   exact KD i I hp.ok hi' hw hd hn hf.1 hf.2.1 hf.2.2 hk) hf h a I
theorem P1 (i:Nat)(is:List Nat)(I:Ag a n E ds)(hi:ops[i]?=some o)(hr:∀w,(execOp a.eval o).run P w=.ok (.value v) w)
 (hk:wo n ops (fun f l E=>∀a,Ag a n E ds→bz P ops Q S X f l a w) is fuel (listed.setIfInBounds i true) ((d,v)::E))
 (hd:o.dst=some d:=by rfl) (hn:Nat.blt d n=true:=by rfl) (hw:jO ops o E=some true:=by rfl) (hf:l0 ops (i::is) listed=true:=by kernel_rfl) [hp:Bn Q]:bz P ops Q S X (fuel+1) listed a w:=by
 simp only[l0,Bool.and_eq_true]at hf;exact HM i I hp.ok hi (p7 I hw) hd hn hf.1 hf.2.1 hf.2.2.1 hr fun a I=>rX is I hk hf.2.2.2
theorem X1 (i:Nat)(is:List Nat)(I:Ag a n E ds)(hi:ops[i]?=some o)(O:S w)(hr:∀w,S w→(execOp a.eval o).run P w=.ok (.value v) w)
 (hk:wo n ops (fun f l E=>∀a,Ag a n E ds→bz P ops Q S X f l a w) is fuel (listed.setIfInBounds i true) ((d,v)::E))
 (hd:o.dst=some d:=by rfl) (hn:Nat.blt d n=true:=by rfl) (hw:jO ops o E=some true:=by rfl) (hf:l0 ops (i::is) listed=true:=by kernel_rfl) (hc:rJ ops listed=true:=by kernel_rfl) (hX:X.all (fun x=>wD ops ops.size x i)=true:=by kernel_rfl) [hp:Bn Q]:bz P ops Q S X (fuel+1) listed a w:=by
 simp only[l0,Bool.and_eq_true]at hf;exact KC i I hp.ok hi (p7 I hw) hd hn hf.1 hf.2.1 hf.2.2.1 hc hX O hr fun a I=>rX is I hk hf.2.2.2
end
def B9 (E:Env):List Nat→Option Env
 | []=>some []
 | i :: l => match find i E with
   | some v => match B9 E l with
     | some E'=>some ((i,v)::E')
     | none=>none
   | none=>none
theorem yZ {E:Env}:∀ {l:List Nat} {E':Env},B9 E l=some E'→rH E E'
 | [],E',h=>by cases h;exact trivial
 | i :: l, E', h => by
   simp only[B9]at h
   split at h
   ·
    rename_i v hv
    split at h
    ·
     rename_i E1 h1;cases h;exact⟨hv,yZ h1⟩
    ·
     cases h
   ·
    cases h
theorem Ag.kp {a:Act}{n:Nat}{E E':Env}(h:Ag a n E ds)(l:List Nat)(k:B9 E l=some E'):Ag a n E' ds:=h.xY (yZ k)
section
variable {P:Program} {Q Q':Exit→Act→World→Prop} {n:Nat} {w w':World} {s:List AD} {E:Env} {a:Act} {ops:Array Oper} {r:List Oper} {o:Oper} {d:Nat} {v:Value} {c:Prop} [Decidable c] {b:Bool}
theorem J9 [hp:zK P Q' Q s](k k':Nat)(I:Ag a n E ds)(hr:(execOp a.eval o).run P w=.ok (.value (.bool (decide c))) w')(kt:c→nS P Q n ds w' k (.o ops r) s ((d,.bool true)::E))(kf:¬c→nS P Q n ds w' k' (.o ops r) s ((d,.bool false)::E))
 (hd:o.dst=some d:=by rfl) (hn:Nat.blt d n=true:=by rfl) (hw:jO ops o E=some true:=by rfl):wpList P ops Q' (o::r) a w:=by
 rw[hp.eq];exact Je I (p7 I hw) hd hn hr (fun h=>oB k (kt h)) fun h=>oB k' (kf h)
theorem Kq [hp:zK P Q' Q s](k k':Nat)(I:Ag a n E ds)(hr:(execOp a.eval o).run P w=.ok (.value (.bool b)) w')(kt:b=true→nS P Q n ds w' k (.o ops r) s ((d,.bool true)::E))(kf:b=false→nS P Q n ds w' k' (.o ops r) s ((d,.bool false)::E))
 (hd:o.dst=some d:=by rfl) (hn:Nat.blt d n=true:=by rfl) (hw:jO ops o E=some true:=by rfl):wpList P ops Q' (o::r) a w:=by
 rw[hp.eq];exact IH I (p7 I hw) hd hn hr (fun h=>oB k (kt h)) fun h=>oB k' (kf h)
end
end Go.Proofs.YtkjabaihpkbfhaaGreat.K
namespace Go.Proofs.YtkjabaihpkbfhaaGreat.K
open Go Go.RowKit
variable {ds:List Deferred}
def Gu (E:Env)(x:Operand):Value:=match fE E x with
 | some v=>v
 | none=>undef
def okB (E:Env)(o:Op):Bool:=(match o with | .select _ _=>false | _=>true) && o.operands.toList.all fun x=>match fE E x with | some _=>true | none=>false
def kJ (b:Bool)(p:Prop):Prop:=match b with | true=>p | false=>False
theorem di {b:Bool}{p:Prop}(h:kJ b p):b=true∧p:=by
 cases b
 ·
  exact h.elim
 ·
  exact⟨rfl,h⟩
def oI (n:Nat)(ops:Array Oper)(d:Nat)(o:Oper)(E:Env):Bool:=Nat.blt d n && ((match jO ops o E with | some true=>true | _=>false) && okB E o.op)
theorem fB {n:Nat}{ops:Array Oper}{d:Nat}{o:Oper}{E:Env}(h:oI n ops d o E=true):Nat.blt d n=true∧jO ops o E=some true∧okB E o.op=true:=by
 simp only[oI,Bool.and_eq_true]at h;refine⟨h.1,?_,h.2.2⟩;have:=h.2.1
 split at this
 ·
  assumption
 ·
  cases this
theorem uz {a:Act}{n:Nat}{E:Env}{o:Oper}(I:Ag a n E ds)(h:okB E o.op=true):execOp a.eval o=execOp (Gu E) o:=by
 unfold okB at h;simp only[Bool.and_eq_true,List.all_eq_true]at h;refine execOp_congr o (fun cs b e=>by rw[e]at h;cases h.1) fun x hx=>?_;have:=h.2 x (by simpa using hx);unfold Gu
 split at this
 ·
  rename_i v hv;exact I.ev hv
 ·
  cases this
def UL (P:Program)(ops:Array Oper)(Q:Exit→Act→World→Prop)(n:Nat)(ds:List Deferred)(w:World)(E:Env)(l:List Oper):Prop:=∀a,Ag a n E ds→wpList P ops Q l a w
def UC (P:Program)(Q:Exit→Act→World→Prop)(n:Nat)(ds:List Deferred)(w:World)(E:Env)(c:Code):Prop:=∀a,Ag a n E ds→c.wp P Q a w
def UQ (P:Program)(ops:Array Oper)(C:World→Prop)(Q:Act→Prop)(n:Nat)(ds:List Deferred)(E:Env)(l:List Oper):Prop:=∀a,Ag a n E ds→wpQuiet P ops C Q l a
def UT (P:Program)(ops:Array Oper)(w:World)(Q:Act→Prop)(n:Nat)(ds:List Deferred)(E:Env)(l:List Oper):Prop:=∀a,Ag a n E ds→wpStill P ops w Q l a
def UX (P:Program)(ops:Array Oper)(Q:Exit→Act→World→Prop)(S:World→Prop)(X:List Nat)(n:Nat)(ds:List Deferred)(w:World)(E:Env)(f:Nat)(l:Array Bool):Prop:=∀a,Ag a n E ds→bz P ops Q S X f l a w
section
variable {P:Program} {Q Q':Exit→Act→World→Prop} {n:Nat} {w w':World} {s:List AD} {E:Env} {ops:Array Oper} {l r:List Oper} {op:Op} {ty:TypeId} {ps:String} {af:Array Edge} {g:Option (Nat×Bool)} {d i fuel:Nat} {v:Value} {c:Prop} [Decidable c] {b:Bool}
theorem uC {x:Code}[hp:zK P Q' Q s](k:Nat)(h:nS P Q n ds w k (.c x) s E):UC P Q' n ds w E x:=fun a I=>rC k I h
theorem uO [hp:zK P Q' Q s](k:Nat)(h:nS P Q n ds w k (.o ops l) s E):UL P ops Q' n ds w E l:=fun a I=>rO k I h
theorem u1 [hp:zK P Q' Q s](k:Nat)(hr:(execOp (Gu E) ⟨some d,op,ty,ps,af,g⟩).run P w=.ok (.value v) w')(hk:kJ (oI n ops d ⟨some d,op,ty,ps,af,g⟩ E) (nS P Q n ds w' k (.o ops r) s ((d,v)::E))):UL P ops Q' n ds w E (⟨some d,op,ty,ps,af,g⟩::r):=
 fun a I=>o1 k I (by rw[uz I (fB (di hk).1).2.2];exact hr) (di hk).2 rfl (fB (di hk).1).1 (fB (di hk).1).2.1
theorem aJ [hp:zK P Q' Q s](k k':Nat)(hr:(execOp (Gu E) ⟨some d,op,ty,ps,af,g⟩).run P w=.ok (.value (.bool (decide c))) w')(kt:c→kJ (oI n ops d ⟨some d,op,ty,ps,af,g⟩ E) (nS P Q n ds w' k (.o ops r) s ((d,.bool true)::E)))(kf:¬c→kJ (oI n ops d ⟨some d,op,ty,ps,af,g⟩ E) (nS P Q n ds w' k' (.o ops r) s ((d,.bool false)::E))):UL P ops Q' n ds w E (⟨some d,op,ty,ps,af,g⟩::r):=
 fun a I=>by
  have hs:oI n ops d ⟨some d,op,ty,ps,af,g⟩ E=true:=by
   by_cases h:c
   ·
    exact (di (kt h)).1
   ·
    exact (di (kf h)).1
  exact J9 k k' I (by rw[uz I (fB hs).2.2];exact hr) (fun h=>(di (kt h)).2) (fun h=>(di (kf h)).2) rfl (fB hs).1 (fB hs).2.1
theorem j4 [hp:zK P Q' Q s](k k':Nat)(hr:(execOp (Gu E) ⟨some d,op,ty,ps,af,g⟩).run P w=.ok (.value (.bool b)) w')(kt:b=true→kJ (oI n ops d ⟨some d,op,ty,ps,af,g⟩ E) (nS P Q n ds w' k (.o ops r) s ((d,.bool true)::E)))(kf:b=false→kJ (oI n ops d ⟨some d,op,ty,ps,af,g⟩ E) (nS P Q n ds w' k' (.o ops r) s ((d,.bool false)::E))):UL P ops Q' n ds w E (⟨some d,op,ty,ps,af,g⟩::r):=
 fun a I=>by
  have hs:oI n ops d ⟨some d,op,ty,ps,af,g⟩ E=true:=by
   cases h:b
   ·
    exact (di (kf h)).1
   ·
    exact (di (kt h)).1
  exact Kq k k' I (by rw[uz I (fB hs).2.2];exact hr) (fun h=>(di (kt h)).2) (fun h=>(di (kf h)).2) rfl (fB hs).1 (fB hs).2.1
variable {C:World→Prop} {Qa:Act→Prop}
theorem uQ (k:Nat)(h:wj n ops (fun l E=>∀a,Ag a n E ds→wpQuiet P ops C Qa l a) k l E):UQ P ops C Qa n ds E l:=fun a I=>rQ k I h
theorem bj (k:Nat)(hr:∀w,C w→(execOp (Gu E) ⟨some d,op,ty,ps,af,g⟩).run P w=.ok (.value v) w)(hk:kJ (oI n ops d ⟨some d,op,ty,ps,af,g⟩ E) (wj n ops (fun l E=>∀a,Ag a n E ds→wpQuiet P ops C Qa l a) k r ((d,v)::E))):UQ P ops C Qa n ds E (⟨some d,op,ty,ps,af,g⟩::r):=
 fun a I=>Q1 k I (fun w hC=>by rw[uz I (fB (di hk).1).2.2];exact hr w hC) (di hk).2 rfl (fB (di hk).1).1 (fB (di hk).1).2.1
theorem ud (k:Nat)(hr:(execOp (Gu E) ⟨some d,op,ty,ps,af,g⟩).run P w=.ok (.value v) w)(hk:kJ (oI n ops d ⟨some d,op,ty,ps,af,g⟩ E) (wj n ops (fun l E=>∀a,Ag a n E ds→wpStill P ops w Qa l a) k r ((d,v)::E))):UT P ops w Qa n ds E (⟨some d,op,ty,ps,af,g⟩::r):=
 fun a I=>T1 k I (by rw[uz I (fB (di hk).1).2.2];exact hr) (di hk).2 rfl (fB (di hk).1).1 (fB (di hk).1).2.1
variable {S:World→Prop} {X:List Nat} {listed:Array Bool}
theorem uX (is:List Nat)(h:wo n ops (fun f l E=>∀a,Ag a n E ds→bz P ops Q S X f l a w) is fuel listed E)(hf:l0 ops is listed=true:=by kernel_rfl)[hp:Bn Q]:UX P ops Q S X n ds w E fuel listed:=fun a I=>rX is I h hf
theorem bF (i:Nat)(is:List Nat)(hi:ops[i]?=some ⟨some d,op,ty,ps,af,g⟩)(hr:∀w,(execOp (Gu E) ⟨some d,op,ty,ps,af,g⟩).run P w=.ok (.value v) w)
 (hk:wo n ops (fun f l E=>∀a,Ag a n E ds→bz P ops Q S X f l a w) is fuel (listed.setIfInBounds i true) ((d,v)::E))
 (hn:Nat.blt d n=true:=by rfl) (hw:jO ops ⟨some d,op,ty,ps,af,g⟩ E=some true:=by rfl) (hf:l0 ops (i::is) listed=true:=by kernel_rfl) (ho:okB E op=true:=by rfl) [hp:Bn Q]:UX P ops Q S X n ds w E (fuel+1) listed:=
 fun a I=>P1 i is I hi (fun w=>by rw[uz I ho];exact hr w) hk rfl hn hw hf
theorem cZ (i:Nat)(is:List Nat)(hi:ops[i]?=some ⟨some d,op,ty,ps,af,g⟩)(O:S w)(hr:∀w,S w→(execOp (Gu E) ⟨some d,op,ty,ps,af,g⟩).run P w=.ok (.value v) w)
 (hk:wo n ops (fun f l E=>∀a,Ag a n E ds→bz P ops Q S X f l a w) is fuel (listed.setIfInBounds i true) ((d,v)::E))
 (hn:Nat.blt d n=true:=by rfl) (hw:jO ops ⟨some d,op,ty,ps,af,g⟩ E=some true:=by rfl) (hf:l0 ops (i::is) listed=true:=by kernel_rfl) (hc:rJ ops listed=true:=by kernel_rfl) (hX:X.all (fun x=>wD ops ops.size x i)=true:=by kernel_rfl) (ho:okB E op=true:=by rfl) [hp:Bn Q]:UX P ops Q S X n ds w E (fuel+1) listed:=
 fun a I=>X1 i is I hi O (fun w O=>by rw[uz I ho];exact hr w O) hk rfl hn hw hf hc hX
end
end Go.Proofs.YtkjabaihpkbfhaaGreat.K
namespace Go.Proofs.YtkjabaihpkbfhaaGreat.K
open Go Go.RowKit
variable {ds:List Deferred}
def Ep (p:Value→Prop):Ending→Prop
 | .returned v=>p v
 | _=>False
theorem zj {p:Value→Prop}{e:Ending}(h:Ep p e):∃v,e=.returned v∧p v:=by
 cases e<;>first | exact⟨_,rfl,h⟩ | exact h.elim
section
variable {P:Program} {Q:Exit→Act→World→Prop} {n:Nat} {W w w':World} {E:Env} {L:List As} {ops:Array Oper} {rest:List Oper} {ty t e:TypeId} {ps:String} {af:Array Edge} {d:Nat} {x y:Operand} {fn:Func} {R:Ending→World→Prop}
theorem uF {f:Nat}{l:List Operand}{tys:Array TypeId}{vs:List Value}{R:Ending→World→Prop}(hv:mW E l=some vs)(hc:Calls P f vs.toArray w R)
 (k:∀e w',R e w'→Ep (fun v=>∀a',Ag a' n ((d,v)::E) ds→wpList P ops Q rest a' w') e) (hn:Nat.blt d n=true:=by rfl) (hf:enters P f=true:=by kernel_rfl) :
 UL P ops Q n ds w E (⟨some d,.call { callee:=.value (.func f),args:=l.toArray,argTypes:=tys },ty,ps,af,none⟩::rest):=fun a I=>Ht I hn hf hv hc fun e w' h=>zj (k e w' h)
theorem iV {f:Nat}{l:List Operand}{tys:Array TypeId}{vs:List Value}{R:Ending→World→Prop}{g:Option (Nat×Bool)}(hv:mW E l=some vs)(hc:Calls P f vs.toArray w R)
 (k:∀e w',R e w'→Ep (fun v=>∀a',Ag a' n ((d,v)::E) ds→wpList P ops Q rest a' w') e) (hw:jO ops ⟨some d,.call { callee:=.value (.func f),args:=l.toArray,argTypes:=tys },ty,ps,af,g⟩ E=some true:=by rfl) (hn:Nat.blt d n=true:=by rfl) (hf:enters P f=true:=by kernel_rfl) :
 UL P ops Q n ds w E (⟨some d,.call { callee:=.value (.func f),args:=l.toArray,argTypes:=tys },ty,ps,af,g⟩::rest):=fun a I=>I7 I (p7 I hw) hn hf hv hc fun e w' h=>zj (k e w' h)
theorem uB {v:Value}(hx:fE E x=some v)(s:Sat W w L)(k:∀b w',Sat W w' (a6 b (.cells v.cells e)::L)→∀a',Ag a' n ((d,.pointer (some ⟨b,0,none⟩))::E) ds→wpList P ops Q rest a' w')(hn:Nat.blt d n=true:=by rfl) :
 UL P ops Q n ds w E (⟨some d,.box e x,ty,ps,af,none⟩::rest):=fun a I=>Kk I hn hx s k
theorem uN {v:Value}(hz:(P.info? e).bind (·.zero)=some v)(s:Sat W w L)(k:∀b w',Sat W w' (a6 b (.cells v.cells e)::L)→∀a',Ag a' n ((d,.pointer (some ⟨b,0,none⟩))::E) ds→wpList P ops Q rest a' w')(hn:Nat.blt d n=true:=by rfl) :
 UL P ops Q n ds w E (⟨some d,.alloc e,ty,ps,af,none⟩::rest):=fun a I=>goN I hn hz s k
theorem uW {b o:Nat}{vs cs cs':List Value}{t':TypeId}(hx:fE E x=some (.pointer (some ⟨b,o,none⟩)))(hy:fE E y=some (.agg vs.toArray))(h1:(P.info? t).map (·.size)=some vs.length)(s:Sat W w (a6 b (.cells cs.toArray t' (0,0))::L))
 (k:∀w',Sat W w' (a6 b (.cells cs'.toArray t' (0,0))::L)→UL P ops Q n ds w' E rest) (hv:∀v∈vs,v.oneCell'=true:=by simp[Value.oneCell']) (hl:Nat.ble (o+vs.length) cs.length=true:=by rfl) (hc:cs.take o++vs++cs.drop (o+vs.length)=cs':=by rfl) :
 UL P ops Q n ds w E (⟨none,.store t x y,ty,ps,af,none⟩::rest):=fun a I=>HZ I hx hy h1 hv s hl hc fun w' O=>k w' O a I
def BS (args:List Value):List Nat→Option Env
 | []=>some []
 | i :: l => match nth args i with
   | some v => match BS args l with
     | some E=>some ((i,v)::E)
     | none=>none
   | none=>none
theorem z7 {args:List Value}:∀ {l:List Nat} {E:Env},BS args l=some E→Holds args E
 | [],E,h=>by cases h;exact trivial
 | i :: l, E, h => by
   simp only[BS]at h
   split at h
   ·
    rename_i v hv
    split at h
    ·
     rename_i E1 h1;cases h;exact⟨hv,z7 h1⟩
    ·
     cases h
   ·
    cases h
theorem bS {f:FuncId}{c:Code}{args:List Value}(hf:P.funcs[f]?=some fn)(l:List Nat)(k:UC P (bodyPost P fn R) n [] w E c)(hb:fn.body=some c:=by rfl)(hn:fn.ntmps=n:=by rfl)(hs:Nat.ble args.length n=true:=by rfl)(hE:BS args l=some E:=by rfl):Calls P f args.toArray w R:=enter hf hb hn hs (z7 hE) k
theorem aY {t:Nat}{v:Value}(h:R (.returned v) w)(hr:fn.results=#[.tmp t]:=by rfl)(hv:find t E=some v:=by rfl):∀a,Ag a n E→bodyPost P fn R .ret a w:=fun a I=>EC I hr hv h
theorem fo {t u:Nat}{v x:Value}(h:R (.returned (.tuple #[v,x])) w)(hr:fn.results=#[.tmp t,.tmp u]:=by rfl)(hv:find t E=some v:=by rfl)(hx:find u E=some x:=by rfl):∀a,Ag a n E→bodyPost P fn R .ret a w:=fun a I=>Gv I hr hv hx h
end
section
variable {P:Program} {W w:World} {L:List As} {ρ:Operand→Value} {d:Option Tmp} {ty:TypeId} {ps:String} {af:Array Edge} {g:Option (Nat×Bool)}
theorem ld {t:Nat}{x:Operand}{p:Addr}{v:Value}(hx:ρ x=.pointer (some p))(hc:w.cell? p=some v:=by first | exact O.cell rfl | exact (O.p 1).cell rfl | exact (O.p 2).cell rfl | exact (O.p 3).cell rfl | exact (O.p 4).cell rfl | exact (O.p 5).cell rfl)(ht:flat P t=true:=by kernel_rfl):(execOp ρ ⟨d,.load t x,ty,ps,af,g⟩).run P w=.ok (.value v) w:=an hx ht hc
theorem lS {t:Nat}{x:Operand}{p:Addr}{cs:List Value}(hx:ρ x=.pointer (some p))(hc:∀j u,cs[j]?=some u→w.cell? (p.add j)=some u:=by first | exact O.ao rfl | exact (O.p 1).ao rfl | exact (O.p 2).ao rfl | exact (O.p 3).ao rfl | exact (O.p 4).ao rfl | exact (O.p 5).ao rfl)(ht:j8 P t=true:=by kernel_rfl)(hz:(P.info? t).map (·.size)=some cs.length:=by kernel_rfl) :
 (execOp ρ ⟨d,.load t x,ty,ps,af,g⟩).run P w=.ok (.value (.agg cs.toArray)) w:=aG hx ht hz hc
variable {x y:Operand} {yt t e:TypeId} {a b i:Int}
theorem ad (hx:ρ x=.int .i64 a)(hy:ρ y=.int .i64 b)(h0:-9223372036854775808≤a+b:=by omega)(h1:a+b≤9223372036854775807:=by omega):(execOp ρ ⟨d,.binOp .add t x y yt,ty,ps,af,g⟩).run P w=.ok (.value (.int .i64 (a+b))) w:=yb hx hy h0 h1
theorem sb (hx:ρ x=.int .i64 a)(hy:ρ y=.int .i64 b)(h0:-9223372036854775808≤a-b:=by omega)(h1:a-b≤9223372036854775807:=by omega):(execOp ρ ⟨d,.binOp .sub t x y yt,ty,ps,af,g⟩).run P w=.ok (.value (.int .i64 (a-b))) w:=Gh hx hy h0 h1
theorem ix {p:Addr}{n c z:Nat}{k:IntKind}(hx:ρ x=.slice (some p) n c)(hy:ρ y=.int k i)(ht:P.underlying t=some (.slice e))(hz:(P.info? e).map (·.size)=some z)(h0:0≤i:=by omega)(h1:i<n:=by omega) :
 (execOp ρ ⟨d,.indexAddr t x y,ty,ps,af,g⟩).run P w=.ok (.value (.pointer (some (p.add (i.toNat * z))))) w:=ib hx hy ht hz h0 h1
theorem iA {b j len sz:Nat}{k:IntKind}(hx:ρ x=.pointer (some ⟨b,j,none⟩))(hy:ρ y=.int k i)(ht:P.underlying t=some (.array len e))(hz:(P.info? e).map (·.size)=some sz)(h0:0≤i:=by omega)(h1:i<len:=by omega) :
 (execOp ρ ⟨d,.indexAddr t x y,ty,ps,af,g⟩).run P w=.ok (.value (.pointer (some ⟨b,j+i.toNat * sz,none⟩))) w:=fG hx hy ht hz h0 h1
end
end Go.Proofs.YtkjabaihpkbfhaaGreat.K
namespace Go.Proofs.YtkjabaihpkbfhaaGreat.K
open Go Go.RowKit
theorem qp {α:Type _}:∀(M:List α) (i:Nat) (A:α),M[i]?=some A→M.Perm (A::M.eraseIdx i)
 | [],i,A,h=>by simp at h
 | B::M,0,A,h=>by simp at h;subst h;exact .refl _
 | B::M,i+1,A,h=>((qp M i A (by simpa using h)).cons B).trans (.swap ..)
theorem xr {α:Type _}:∀(M:List α) (i:Nat) (B:α),(M.set i B).eraseIdx i=M.eraseIdx i
 | [],_,_=>rfl
 | _::_,0,_=>rfl
 | A::M,i+1,B=>by simp[xr M i B]
theorem holds.AU {A:As}{M:List As}{h:Hp}(x:bB (A::M) h):star A (bB M) h:=x
section
variable {W w:World} {A B:As} {L M N:List As}
theorem Sat.gX (s:Sat W w L):Sat W w (bB []::L):=
 ⟨s.below,let ⟨h,x,y⟩:=s.own;⟨h,⟨fun _=>none,h,fun _=>.inl rfl,fun _ _ e=>(by cases e),Sub.refl h,trivial,x⟩,y⟩⟩
theorem Sat.Dz (s:Sat W w (bB (A::M)::L)):Sat W w (A::bB M::L):=(s.imp fun h x=>holds.AU x).open_
theorem Sat.pf (s:Sat W w (A::bB M::L)):Sat W w (bB (A::M)::L):=s.shut.imp fun h x=>x
theorem Sat.sy (p:M.Perm N)(s:Sat W w (bB M::L)):Sat W w (bB N::L):=s.imp fun h x=>holds.perm p h x
theorem Sat.wP (s:Sat W w (A::bB M::L)):Sat W w (bB (M++[A])::L):=s.pf.sy (List.perm_append_singleton A M).symm
theorem Sat.dU {i:Nat}(hi:M[i]?=some A)(s:Sat W w (bB M::L)):Sat W w (A::bB (M.eraseIdx i)::L):=(s.sy (qp M i A hi)).Dz
theorem Sat.u6 {i:Nat}(hi:i<M.length)(s:Sat W w (B::bB (M.eraseIdx i)::L)):Sat W w (bB (M.set i B)::L):=by
 refine s.pf.sy ?_;have h:=qp (M.set i B) i B (by rw[List.getElem?_set_self hi]);rw[xr]at h;exact h.symm
end
section
variable {P:Program} {w:World} {ρ:Operand→Value} {d:Option Tmp} {ty:TypeId} {ps:String} {af:Array Edge} {g:Option (Nat×Bool)} {t yt s:TypeId} {x y:Operand} {a b:Int} {k:IntKind}
theorem jK {u:TypeDesc}(hx:ρ x=.int k a)(hs:P.underlying s=some u)(ht:P.underlying t=some (.int .u8))(h0:0≤a)(h1:a≤255):(execOp ρ ⟨d,.convert s t x,ty,ps,af,g⟩).run P w=.ok (.value (.int .u8 a)) w:=
 nk hx hs ht h0 h1
theorem HE (hx:ρ x=.int .u8 a)(hy:ρ y=.int .u8 b)(h0:0≤a+b)(h1:a+b≤255):(execOp ρ ⟨d,.binOp .add t x y yt,ty,ps,af,g⟩).run P w=.ok (.value (.int .u8 (a+b))) w:=
 GD hx hy h0 h1
end
end Go.Proofs.YtkjabaihpkbfhaaGreat.K
namespace Go.Proofs.YtkjabaihpkbfhaaGreat.K
open Go Go.RowKit
variable {ds:List Deferred}
def ob (P:Program)(t:TypeId):Bool:=match P.underlying t with | some (.interface _)=>false | none=>false | some _=>true
section
variable {P:Program} {ops:Array Oper} {Q:Exit→Act→World→Prop} {a:Act} {n:Nat} {E:Env} {w w' W:World} {rest:List Oper} {d:Nat} {o:Oper}
variable {ty t tx e:TypeId} {ps:String} {af:Array Edge} {g:Option (Nat×Bool)} {x y:Operand} {L:List As} {dd:Option Tmp} {fn:Func} {R:Ending→World→Prop}
theorem IY {f:FuncId}{args:Array Value}(I:Ag a n E ds)(hg:o.guard=none)(hd:o.dst=some d)(hn:Nat.blt d n=true)
 (hr:(execOp a.eval o).run P w=.ok (.enter f args) w) (hc:Calls P f args w R)
 (k:∀e w',R e w'→(∃v,e=.returned v∧∀a',Ag a' n ((d,v)::E) ds→wpList P ops Q rest a' w')∨(∃ch,e=.panicked ch∧Q (.panic ch) a w')):wpList P ops Q (o::rest) a w:=by
 refine wpList_plain hg fun K hK=>?_;simp only[Oper.wp,hr,Oper.upon];refine hc.mono fun e w' h=>?_;rcases k e w' h with ⟨v,rfl,hk⟩ | ⟨ch,rfl,hq⟩
 ·
  show K (a.put o.dst v) w';rw[dI hd];exact hK _ _ (hk _ (I.put hn v))
 ·
  exact hq
theorem eu (I:Ag a n E ds){f:Nat}{l:List Operand}{tys:Array TypeId}{vs:List Value}(hn:Nat.blt d n=true)(hf:enters P f=true)(hv:mW E l=some vs)(hc:Calls P f vs.toArray w R)
 (k:∀e w',R e w'→(∃v,e=.returned v∧∀a',Ag a' n ((d,v)::E) ds→wpList P ops Q rest a' w')∨(∃ch,e=.panicked ch∧Q (.panic ch) a w')) :
 wpList P ops Q (⟨some d,.call { callee:=.value (.func f),args:=l.toArray,argTypes:=tys },ty,ps,af,none⟩::rest) a w:=
 IY I rfl rfl hn (px I hf hv) hc k
theorem x5 (I:Ag a n E ds){f:Nat}{l:List Operand}{tys:Array TypeId}{vs caps:List Value}(hf:enters P f=true)(hx:fE E x=some (.func (.func f) #[] caps.toArray))(hv:mW E l=some vs) :
 (execOp a.eval ⟨dd,.call { callee:=.value x,args:=l.toArray,argTypes:=tys },ty,ps,af,g⟩).run P w=.ok (.enter f (vs++caps).toArray) w:=by
 have h:=kB (w:=w) (args:=(vs++caps).toArray) hf;have hq:=I.ev hx;have hv':l.map a.eval=vs:=I.mW hv;have he:execOp a.eval ⟨dd,.call { callee:=.value x,args:=l.toArray,argTypes:=tys },ty,ps,af,g⟩=(Deferred.ofValue (a.eval x) (l.toArray.map a.eval)).bind fun d=>invoke d.target d.args:=rfl
 have hm:l.toArray.map a.eval=vs.toArray:=by simp[hv']
 have ha:(#[]++vs.toArray)++caps.toArray=(vs++caps).toArray:=by simp
 rw[he,hq,hm,Sem.run_bind'];show ((callFunc f ((#[]++vs.toArray)++caps.toArray)).run P w)=_;rw[ha,h]
theorem Be (I:Ag a n E ds){f:Nat}{l:List Operand}{tys:Array TypeId}{vs caps:List Value}(hn:Nat.blt d n=true)(hf:enters P f=true)(hx:fE E x=some (.func (.func f) #[] caps.toArray))(hv:mW E l=some vs)(hc:Calls P f (vs++caps).toArray w R)
 (k:∀e w',R e w'→(∃v,e=.returned v∧∀a',Ag a' n ((d,v)::E) ds→wpList P ops Q rest a' w')∨(∃ch,e=.panicked ch∧Q (.panic ch) a w')) :
 wpList P ops Q (⟨some d,.call { callee:=.value x,args:=l.toArray,argTypes:=tys },ty,ps,af,none⟩::rest) a w:=
 IY I rfl rfl hn (x5 I hf hx hv) hc k
theorem E8 {v:Value}{s:TypeId}{ρ:Operand→Value}(hx:ρ x=v)(hs:ob P s=true):(execOp ρ ⟨dd,.makeInterface s x,ty,ps,af,g⟩).run P w=.ok (.value (.iface s v)) w:=by
 unfold ob at hs;cases hu:P.underlying s with
 | none=>rw[hu]at hs;cases hs
 | some u =>
   rw[hu]at hs;cases u<;>first | (cases hs;done) | simp[execOp,Instr.makeInterface,hx,run_underlying hu,go_sem]
theorem qY {ρ:Operand→Value}{f:Nat}{l:List Operand}{vs:List Value}(hv:l.map ρ=vs):(execOp ρ ⟨dd,.makeFunc (.func f) #[] l.toArray,ty,ps,af,g⟩).run P w=.ok (.value (.func (.func f) #[] vs.toArray)) w:=by
 have he:execOp ρ ⟨dd,.makeFunc (.func f) #[] l.toArray,ty,ps,af,g⟩=(Sem.pure (Value.func (.func f) ((#[]:Array Operand).map ρ) (l.toArray.map ρ))).bind fun v=>Sem.pure (Next.value v):=rfl
 have h1:l.toArray.map ρ=vs.toArray:=by simp[hv]
 have h2:(#[]:Array Operand).map ρ=#[]:=by simp
 rw[he,h1,h2]
 rfl
theorem Jh {v:Value}(I:Ag a n E ds)(hx:fE E x=some (.iface t v))(h:Q (.panic [{ v:=.iface t v,recovered:=false }]) a w) :
 wpList P ops Q (⟨none,.panic x,ty,ps,af,none⟩::rest) a w:=by
 refine wpList_plain rfl fun K hK=>?_
 have hr:(execOp a.eval ⟨none,.panic x,ty,ps,af,none⟩).run P w=.halt (.panic (.iface t v)) w:=by
  have he:execOp a.eval ⟨none,.panic x,ty,ps,af,none⟩=(Instr.panic (a.eval x)).bind fun v=>Sem.pure (Next.value v):=rfl
  rw[he,I.ev hx]
  rfl
 simp only[Oper.wp,hr,Oper.upon];exact h
theorem dj {ch:List PanicEntry}(I:Ag a n E)(h:R (.panicked ch) w):bodyPost P fn R (.panic ch) a w:=⟨I.defers,h⟩
end
def xK (v:Value)(e:Ending):Prop:=∃older:List PanicEntry,e=.panicked ({ v:=v,recovered:=false }::older)∧older.all (fun x=>!x.goexit)=true
theorem xK.one (v:Value):xK v (.panicked [{ v:=v,recovered:=false }]):=⟨[],rfl,rfl⟩
end Go.Proofs.YtkjabaihpkbfhaaGreat.K
namespace Go.Proofs.YtkjabaihpkbfhaaGreat.K
open Go Go.RowKit
def AM (P:Program)(t:TypeId):Bool:=match P.underlying t with | some (.func _ _ _)=>true | _=>false
theorem AR {P:Program}{t:TypeId}(h:AM P t=true):∃p r v,P.underlying t=some (.func p r v):=by
 unfold AM at h;cases hu:P.underlying t with
 | none=>rw[hu]at h;cases h
 | some u =>
   rw[hu]at h;cases u<;>first | (cases h;done) | exact⟨_,_,_,rfl⟩
structure AB (ds:List Deferred)(a:Act)(n:Nat)(E:Env):Prop where
 base:Ag { a with defers:=[] } n E
 defers:a.defers=ds
section
variable {a:Act} {n:Nat} {E E':Env} {ds:List Deferred}
theorem AB.ev (h:AB ds a n E){x:Operand}{v:Value}(e:fE E x=some v):a.eval x=v:=h.base.ev e
theorem AB.put (h:AB ds a n E){d:Nat}(hd:Nat.blt d n=true)(v:Value):AB ds (a.put (some d) v) n ((d,v)::E):=⟨h.base.put hd v,h.defers⟩
theorem AB.xY (h:AB ds a n E)(k:rH E E'):AB ds a n E':=⟨h.base.xY k,h.defers⟩
end
section
variable {P:Program} {ops:Array Oper} {Q:Exit→Act→World→Prop} {a:Act} {n:Nat} {E:Env} {w w' W:World} {rest:List Oper} {d:Nat} {o:Oper} {ds:List Deferred} {v:Value}
variable {ty t tx e:TypeId} {ps:String} {af:Array Edge} {g:Option (Nat×Bool)} {x y:Operand} {L:List As} {dd:Option Tmp} {fn:Func} {R:Ending→World→Prop} {c:Prop} [Decidable c]
theorem F2 {f:Nat}{caps:List Value}(I:Ag a n E)(hx:fE E x=some (.func (.func f) #[] caps.toArray))
 (k:∀a',AB [{ target:=.fn (.func f) caps.toArray,args:=#[] }] a' n E→wpList P ops Q rest a' w) :
 wpList P ops Q (⟨none,.defer { callee:=.value x,args:=#[],argTypes:=#[] },ty,ps,af,none⟩::rest) a w:=by
 refine wpList_plain rfl fun K hK=>?_
 have hr:(execOp a.eval ⟨none,.defer { callee:=.value x,args:=#[],argTypes:=#[] },ty,ps,af,none⟩).run P w=.ok (.defer { target:=.fn (.func f) caps.toArray,args:=#[] }) w:=by
  have he:execOp a.eval ⟨none,.defer { callee:=.value x,args:=#[],argTypes:=#[] },ty,ps,af,none⟩=(Deferred.ofValue (a.eval x) ((#[]:Array Operand).map a.eval)).bind fun d=>Sem.pure (.defer d):=rfl
  rw[he,I.ev hx];have h2:(#[]:Array Operand).map a.eval=#[]:=by simp
  rw[h2]
  rfl
 simp only[Oper.wp,hr,Oper.upon];exact hK _ _ (k _ ⟨⟨I.size,rfl,I.at_⟩,by show _::a.defers=_;rw[I.defers]⟩)
namespace D
theorem yI (I:AB ds a n E)(hg:o.guard=none)(hd:o.dst=some d)(hn:Nat.blt d n=true)(hr:(execOp a.eval o).run P w=.ok (.value v) w')
 (k:∀a',AB ds a' n ((d,v)::E)→wpList P ops Q rest a' w'):wpList P ops Q (o::rest) a w:=by
 refine wpList_plain hg fun K hK=>?_;simp only[Oper.wp,hr,Oper.upon];rw[dI hd];exact hK _ _ (k _ (I.put hn v))
theorem HK (I:AB ds a n E)(hg:o.guard=none)(hd:o.dst=none)(hr:(execOp a.eval o).run P w=.ok .skip w')
 (k:wpList P ops Q rest a w'):wpList P ops Q (o::rest) a w:=by
 refine wpList_plain hg fun K hK=>?_;simp only[Oper.wp,hr,Oper.upon,hd];exact hK _ _ k
theorem Be (I:AB ds a n E){f:Nat}{l:List Operand}{tys:Array TypeId}{vs caps:List Value}(hn:Nat.blt d n=true)(hf:enters P f=true)(hx:fE E x=some (.func (.func f) #[] caps.toArray))(hv:mW E l=some vs)(hc:Calls P f (vs++caps).toArray w R)
 (k:∀e w',R e w'→(∃v,e=.returned v∧∀a',AB ds a' n ((d,v)::E)→wpList P ops Q rest a' w')∨(∃ch,e=.panicked ch∧Q (.panic ch) a w')) :
 wpList P ops Q (⟨some d,.call { callee:=.value x,args:=l.toArray,argTypes:=tys },ty,ps,af,none⟩::rest) a w:=by
 refine wpList_plain rfl fun K hK=>?_;have hr:=x5 (P:=P) (w:=w) (dd:=some d) (ty:=ty) (ps:=ps) (af:=af) (g:=none) (tys:=tys) I.base hf hx hv;have hr:(execOp a.eval ⟨some d,.call { callee:=.value x,args:=l.toArray,argTypes:=tys },ty,ps,af,none⟩).run P w=.ok (.enter f (vs++caps).toArray) w:=hr;simp only[Oper.wp,hr,Oper.upon];refine hc.mono fun e w' h=>?_;rcases k e w' h with ⟨v,rfl,hk⟩ | ⟨ch,rfl,hq⟩
 ·
  exact hK _ _ (hk _ (I.put hn v))
 ·
  exact hq
theorem kK {b j:Nat}{v u:Value}{cs:Array Value}{t':TypeId}(I:AB ds a n E)(hx:fE E x=some (.pointer (some ⟨b,j,none⟩)))(hy:fE E y=some v)(ht:flat P t=true)(h1:(P.info? t).map (·.size)=some 1)(hv:v.oneCell'=true)
 (s:Sat W w (a6 b (.cells cs t' (0,0))::L)) (hj:nth cs.toList j=some u) (k:∀w',Sat W w' (a6 b (.cells (cs.setIfInBounds j v) t' (0,0))::L)→wpList P ops Q rest a w'):wpList P ops Q (⟨none,.store t x y,ty,ps,af,none⟩::rest) a w:=
 D.HK I rfl rfl (tD (I.ev hx) (I.ev hy) ht h1 hv (s.cell hj) s.free) (k _ (s.store v))
end D
theorem F6 {f:FuncId}{c:Code}{args:List Value}(hf:P.funcs[f]?=some fn)(hb:fn.body=some c)(hn:fn.ntmps=n)(hs:Nat.ble args.length n=true)(hE:Holds args E)
 (k:∀a,Ag a n E→c.wp P (bodyPostD P fn R) a w):Calls P f args.toArray w R:=by
 subst hn;refine calls_of_wp_defers hf hb (k _ (Ag.enter args.toArray _ (by simpa using Nat.le_of_ble_eq_true hs) ?_));clear k hs
 induction E with
 | nil=>intro p hp;cases hp
 | cons q E' ih =>
   intro p hp;cases hp with
   | head=>have h:=hE.1;rw[mj]at h;simpa using h
   | tail _ hp=>exact ih hE.2 p hp
theorem Gg {f:Nat}{caps:Array Value}{p r:Array TypeId}{v:Bool}(hs:P.underlying t=some (.func p r v)):(Op.equalIn Op.maxDepth t (.func (.func f) #[] caps) .nilFunc).run P w=.ok false w:=by
 obtain⟨m,hm⟩:∃m,Op.maxDepth=m+1:=⟨9999,rfl⟩;rw[hm];simp[Op.equalIn,run_underlying hs,go_sem]
theorem Hg {f:Nat}{caps:Array Value}{yt:TypeId}{ρ:Operand→Value}{p r:Array TypeId}{v:Bool}(hx:ρ x=.func (.func f) #[] caps)(hy:ρ y=.nilFunc)(hs:P.underlying t=some (.func p r v)):(execOp ρ ⟨dd,.binOp .neq t x y yt,ty,ps,af,g⟩).run P w=.ok (.value (.bool true)) w:=by
 simp[execOp,hx,hy,binOp,eqGuard,Op.equal,Gg hs,Result.andThen,go_sem]
theorem CK {s xt:TypeId}{ρ:Operand→Value}(hx:ρ x=.iface s v)(hc:ob P s=true):(execOp ρ ⟨dd,.typeAssert x xt s true,ty,ps,af,g⟩).run P w=.ok (.value (.tuple #[v,.bool true])) w:=by
 unfold ob at hc;cases hu:P.underlying s with
 | none=>rw[hu]at hc;cases hc
 | some u =>
   rw[hu]at hc;cases u<;>first | (cases hc;done) | simp[execOp,Instr.typeAssert,hx,run_underlying hu,go_sem]
theorem Ch {s xt:TypeId}{z:Value}{ρ:Operand→Value}(hx:ρ x=.nilIface)(hc:ob P s=true)(hz:(zeroValue s).run P w=.ok z w):(execOp ρ ⟨dd,.typeAssert x xt s true,ty,ps,af,g⟩).run P w=.ok (.value (.tuple #[z,.bool false])) w:=by
 unfold ob at hc;cases hu:P.underlying s with
 | none=>rw[hu]at hc;cases hc
 | some u =>
   rw[hu]at hc;cases u<;>first | (cases hc;done) | simp[execOp,Instr.typeAssert,hx,run_underlying hu,hz,Result.andThen,go_sem]
theorem yP {s xt t':TypeId}{z:Value}{ρ:Operand→Value}(hx:ρ x=.iface t' v)(hne:t'≠s)(hc:ob P s=true)(hz:(zeroValue s).run P w=.ok z w):(execOp ρ ⟨dd,.typeAssert x xt s true,ty,ps,af,g⟩).run P w=.ok (.value (.tuple #[z,.bool false])) w:=by
 unfold ob at hc;cases hu:P.underlying s with
 | none=>rw[hu]at hc;cases hc
 | some u =>
   rw[hu]at hc;cases u<;>first | (cases hc;done) | simp[execOp,Instr.typeAssert,hx,hne,run_underlying hu,hz,Result.andThen,go_sem]
theorem qD {z:Value}(hz:(P.info? t).bind (·.zero)=some z):(zeroValue t).run P w=.ok z w:=by
 cases hi:P.info? t with
 | none=>rw[hi]at hz;cases hz
 | some i =>
   rw[hi]at hz;have hz:i.zero=some z:=hz;simp[zeroValue,typeInfo,hi,hz,go_sem]
def isIface (P:Program)(t:TypeId):Bool:=match P.underlying t with | some (.interface _)=>true | _=>false
theorem xL {s:TypeId}{yt:TypeId}{ρ:Operand→Value}(hx:ρ x=.iface s v)(hy:ρ y=.nilIface)(hs:isIface P t=true):(execOp ρ ⟨dd,.binOp .neq t x y yt,ty,ps,af,g⟩).run P w=.ok (.value (.bool true)) w:=by
 unfold isIface at hs;cases hu:P.underlying t with
 | none=>rw[hu]at hs;cases hs
 | some u =>
   rw[hu]at hs;cases u<;>first | (cases hs;done) | skip
   obtain⟨m,hm⟩:∃m,Op.maxDepth=m+1:=⟨9999,rfl⟩;simp[execOp,hx,hy,binOp,eqGuard,Op.equal,hm,Op.equalIn,run_underlying hu,Result.andThen,go_sem]
theorem Cu {yt:TypeId}{ρ:Operand→Value}(hx:ρ x=.nilIface)(hy:ρ (.const .nilIface)=.nilIface)(hs:isIface P t=true):(execOp ρ ⟨dd,.binOp .neq t x (.const .nilIface) yt,ty,ps,af,g⟩).run P w=.ok (.value (.bool false)) w:=by
 unfold isIface at hs;cases hu:P.underlying t with
 | none=>rw[hu]at hs;cases hs
 | some u =>
   rw[hu]at hs;cases u<;>first | (cases hs;done) | skip
   obtain⟨m,hm⟩:∃m,Op.maxDepth=m+1:=⟨9999,rfl⟩;simp[execOp,hx,hy,binOp,eqGuard,Op.equal,hm,Op.equalIn,run_underlying hu,Result.andThen,go_sem]
theorem FC {el:TypeId}{k:Nat}{p:Addr}{yt:TypeId}{ρ:Operand→Value}(hx:ρ x=.pointer (some p))(hy:ρ y=.pointer (some p))(ht:P.underlying t=some (.pointer el))(hz:(P.info? el).map (·.size)=some (k+1)):(execOp ρ ⟨dd,.binOp .neq t x y yt,ty,ps,af,g⟩).run P w=.ok (.value (.bool false)) w:=by
 obtain⟨i,hi,hk⟩:=Option.map_eq_some_iff.1 hz;obtain⟨m,hm⟩:∃m,Op.maxDepth=m+1:=⟨9999,rfl⟩;simp[execOp,hx,hy,binOp,eqGuard,Op.equal,hm,Op.equalIn,run_underlying ht,sizeOf,typeInfo,hi,hk,sameAddr,Result.andThen,go_sem]
end
end Go.Proofs.YtkjabaihpkbfhaaGreat.K
namespace Go.Proofs.YtkjabaihpkbfhaaGreat.K
open Go Go.RowKit
variable {ds:List Deferred}
section
variable {P:Program} {ops:Array Oper} {Q:Exit→Act→World→Prop} {a:Act} {n:Nat} {E:Env} {w w' W:World} {rest:List Oper} {d:Nat}
variable {ty t e tx:TypeId} {ps:String} {af:Array Edge} {x y:Operand} {L:List As}
theorem GK {i:Nat}{K:Act→World→Prop}{f:Nat}{l:List Operand}{tys:Array TypeId}{vs:List Value}{R:Ending→World→Prop}(I:Ag a n E ds)(hi:ops[i]?=some ⟨some d,.call { callee:=.value (.func f),args:=l.toArray,argTypes:=tys },ty,ps,af,none⟩)
 (hn:Nat.blt d n=true) (hf:enters P f=true) (hv:mW E l=some vs) (hc:Calls P f vs.toArray w R) (k:∀e w',R e w'→(∃v,e=.returned v∧∀a',Ag a' n ((d,v)::E) ds→K a' w')∨(∃ch,e=.panicked ch∧Q (.panic ch) a w')):wpOp P ops Q i K a w:=by
 unfold wpOp;simp only[hi];rw[if_pos (by simp[Region.wanted])];refine .inl ?_;simp only[Oper.wp,px I hf hv,Oper.upon];refine hc.mono fun e w' h=>?_;rcases k e w' h with ⟨v,rfl,hk⟩ | ⟨ch,rfl,hq⟩
 ·
  exact hk _ (I.put hn v)
 ·
  exact hq
theorem Sat.Hn {b m sz:Nat}{cs:List Value}(s:Sat W w (a6 b (.cells cs.toArray e)::L))(hl:cs.length=m * sz)(hm:m≤9223372036854775807):Sat W w (row e sz (.slice (some ⟨b,0,none⟩) m m) m cs::L):=
 s.imp fun h hh=>.inr ⟨b,m,[],(0,0),rfl,Nat.le_refl _,hm,hl,by simpa using hl,lM.zero _,by rw[show h b=_ from hh];simp⟩
end
end Go.Proofs.YtkjabaihpkbfhaaGreat.K
namespace Go.Proofs.YtkjabaihpkbfhaaGreat.K
open Go Go.RowKit
variable {ds:List Deferred}
section
variable {P:Program} {w:World} {ρ:Operand→Value} {dd:Option Tmp} {ty:TypeId} {ps:String} {af:Array Edge} {g:Option (Nat×Bool)} {e t:TypeId} {x y z u:Operand}
theorem C7 {z:Value}{by_ n c:Nat}(hx:ρ x=.int .i64 n)(hy:ρ y=.int .i64 c)(hnc:n≤c)(ht:P.underlying t=some (.slice e))(hi:dX P e=some (some z,1,by_))(hz:z.cells=#[z])(hn:by_ * c≤140737488355328)(hn2:c≤140737488355328) :
 (execOp ρ ⟨dd,.makeSlice t x y,ty,ps,af,g⟩).run P w=.ok (.value (.slice (some ⟨w.heap.size,0,none⟩) n c)) (w.alloc (.cells (List.replicate c z).toArray e)):=by
 obtain⟨i,hi',hq⟩:=Option.map_eq_some_iff.1 hi;simp only[Prod.mk.injEq]at hq;obtain⟨hz',hsz,hb⟩:=hq;have hw:IntKind.i64.wrap (n:Int)=n:=gA (by simp[IntKind.min,IntKind.signed,IntKind.bits];try omega) (by simp[IntKind.max,IntKind.signed,IntKind.bits];try omega);have hwc:IntKind.i64.wrap (c:Int)=c:=gA (by simp[IntKind.min,IntKind.signed,IntKind.bits];try omega) (by simp[IntKind.max,IntKind.signed,IntKind.bits];try omega)
 have hm:(by_:Int) * (n:Int)≤(by_:Int) * (c:Int):=by
  have:=Nat.mul_le_mul_left by_ hnc;rw[←Int.natCast_mul,←Int.natCast_mul];omega
 have h1:¬(281474976710656<(by_:Int) * (c:Int)):=by
  rw[show (by_:Int) * (c:Int)=((by_ * c:Nat):Int) from by simp];omega
 have h1n:¬(281474976710656<(by_:Int) * (n:Int)):=by omega
 have h2:¬(c * by_ > roomBytes):=by rw[Nat.mul_comm];simp[roomBytes];omega
 have h3:¬((n:Int)<0):=by omega
 have h3c:¬((c:Int)<n):=by omega
 have harr:((Array.range c).map fun _=>z)=(List.replicate c z).toArray:=by
  apply Array.ext';simp[List.map_const']
 have hz2:(fun x:Nat=>z.cells[x % z.cells.size]!)=fun _=>z:=by
  funext x;rw[hz];simp[Nat.mod_one]
 obtain⟨N,hN⟩:∃N:Int,N=(n:Int):=⟨_,rfl⟩;obtain⟨C,hC⟩:∃N:Int,N=(c:Int):=⟨_,rfl⟩;have hNn:N.toNat=n:=by omega
 have hCc:C.toNat=c:=by omega
 rw[←hN]at hx hw h3 h1n h3c;rw[←hC]at hy hwc h1 h3c;have h4:¬(c * by_ > 140737488355328):=by rw[Nat.mul_comm];omega
 simp[execOp,hx,hy,Instr.makeSlice,run_underlying ht,asInt,typeInfo,sizeOf,zeroValue,hi',hsz,hb,hz',hw,hwc,h1,h1n,h3,h3c,hNn,hCc,askRoom,roomBytes,newRow,newObj,Sem.run,go_sem]
 by_cases h0:c=0
 ·
  subst h0;obtain rfl:n=0:=by omega
  simp[hNn,hCc,h3,h3c,h4,show C=0 from by omega,show N=0 from by omega]
  congr 2
  apply Array.ext';simp[Array.range]
 ·
  simp[h0,h3,h3c,h4,show ¬C≤0 from by omega,show ¬C<0 from by omega,show ¬N<0 from by omega];show w.alloc (.cells (Array.map (fun x=>z.cells[x % z.cells.size]!) (Array.range c)) e)=_;rw[hz2,harr];simp
end
section
variable {P:Program} {ops:Array Oper} {a:Act} {n:Nat} {E:Env} {w W:World} {rest:List Oper} {d:Nat} {Q:Exit→Act→World→Prop} {L:List As} {e t:TypeId} {ty:TypeId} {ps:String} {af:Array Edge} {x y:Operand}
theorem JG {z:Value}{by_ m c:Nat}(I:Ag a n E ds)(hn:Nat.blt d n=true)(hx:fE E x=some (.int .i64 m))(hy:fE E y=some (.int .i64 c))(ht:P.underlying t=some (.slice e))(hi:dX P e=some (some z,1,by_))(hz:z.cells=#[z])(hmc:m≤c)(h1:by_ * c≤140737488355328)(h2:c≤140737488355328)
 (s:Sat W w L) (k:∀b w',Sat W w' (row e 1 (.slice (some ⟨b,0,none⟩) m c) m (List.replicate m z)::L)→∀a',Ag a' n ((d,.slice (some ⟨b,0,none⟩) m c)::E) ds→wpList P ops Q rest a' w'):wpList P ops Q (⟨some d,.makeSlice t x y,ty,ps,af,none⟩::rest) a w:=
 yI I rfl rfl hn (C7 (I.ev hx) (I.ev hy) hmc ht hi hz h1 h2) (k _ _ ((s.alloc _).imp fun h hh=>.inr ⟨w.heap.size,c,List.replicate (c-m) z,(0,0),rfl,hmc,by omega,by simp,by simp;omega,lM.zero _,by rw[show h w.heap.size=_ from hh];congr 2;rw[List.replicate_append_replicate];congr 2;omega⟩))
end
end Go.Proofs.YtkjabaihpkbfhaaGreat.K
namespace Go.Proofs.YtkjabaihpkbfhaaGreat.T
open Go Go.Proofs.YtkjabaihpkbfhaaGreat.K
theorem pA:Tryz.prog.underlying 3=some (.int .i64):=by kernel_rfl
theorem Ku:Tryz.prog.underlying 4=some (.bool):=by kernel_rfl
theorem oa:Tryz.prog.underlying 5=some (.int .u8):=by kernel_rfl
theorem yH:Tryz.prog.underlying 9=some (.string):=by kernel_rfl
theorem fw:Tryz.prog.underlying 22=some (.slice 72):=by kernel_rfl
theorem bd:Tryz.prog.underlying 26=some (.slice 5):=by kernel_rfl
theorem og:Tryz.prog.underlying 44=some (.slice 68):=by kernel_rfl
theorem o3:Tryz.prog.underlying 48=some (.slice 74):=by kernel_rfl
theorem bC:Tryz.prog.underlying 59=some (.slice 216):=by kernel_rfl
theorem ax:Tryz.prog.underlying 60=some (.slice 3):=by kernel_rfl
theorem dt:Tryz.prog.underlying 61=some (.slice 219):=by kernel_rfl
theorem dk:Tryz.prog.underlying 64=some (.slice 206):=by kernel_rfl
theorem nQ:Tryz.prog.underlying 125=some (.array 3 3):=by kernel_rfl
theorem fF:Tryz.prog.underlying 136=some (.slice 63):=by kernel_rfl
theorem GZ:Tryz.prog.underlying 186=some (.pointer 263):=by kernel_rfl
theorem EB:Tryz.prog.underlying 196=some (.pointer 269):=by kernel_rfl
theorem EW:Tryz.prog.underlying 208=some (.int .u32):=by kernel_rfl
theorem iP:Tryz.prog.underlying 307=some (.array 3 26):=by kernel_rfl
theorem bU:Tryz.prog.underlying 326=some (.slice 357):=by kernel_rfl
theorem l6:Tryz.prog.underlying 355=some (.array 16 326):=by kernel_rfl
theorem fx:Tryz.prog.underlying 375=some (.array 16 60):=by kernel_rfl
theorem oh:Tryz.prog.underlying 382=some (.slice 214):=by kernel_rfl
theorem E7:Tryz.prog.underlying 393=some (.slice 326):=by kernel_rfl
theorem dA:flat Tryz.prog 3=true:=by kernel_rfl
theorem eP:(Tryz.prog.info? 3).map (·.size)=some 1:=by kernel_rfl
theorem tA:flat Tryz.prog 4=true:=by kernel_rfl
theorem wq:(Tryz.prog.info? 4).map (·.size)=some 1:=by kernel_rfl
theorem Az:flat Tryz.prog 5=true:=by kernel_rfl
theorem sL:(Tryz.prog.info? 5).map (·.size)=some 1:=by kernel_rfl
theorem Fa:flat Tryz.prog 9=true:=by kernel_rfl
theorem Gl:flat Tryz.prog 22=true:=by kernel_rfl
theorem Gk:(Tryz.prog.info? 22).map (·.size)=some 1:=by kernel_rfl
theorem iT:j8 Tryz.prog 24=true:=by kernel_rfl
theorem cE:(Tryz.prog.info? 24).map (·.size)=some 3:=by kernel_rfl
theorem rB:flat Tryz.prog 26=true:=by kernel_rfl
theorem gG:(Tryz.prog.info? 26).map (·.size)=some 1:=by kernel_rfl
theorem qk:flat Tryz.prog 27=true:=by kernel_rfl
theorem rZ:(Tryz.prog.info? 27).map (·.size)=some 1:=by kernel_rfl
theorem Dj:flat Tryz.prog 44=true:=by kernel_rfl
theorem Hm:(Tryz.prog.info? 44).map (·.size)=some 1:=by kernel_rfl
theorem C0:j8 Tryz.prog 46=true:=by kernel_rfl
theorem qj:(Tryz.prog.info? 46).map (·.size)=some 3:=by kernel_rfl
theorem Dh:flat Tryz.prog 48=true:=by kernel_rfl
theorem Hk:(Tryz.prog.info? 48).map (·.size)=some 1:=by kernel_rfl
theorem Em:j8 Tryz.prog 50=true:=by kernel_rfl
theorem qs:(Tryz.prog.info? 50).map (·.size)=some 3:=by kernel_rfl
theorem JP:flat Tryz.prog 59=true:=by kernel_rfl
theorem JV:(Tryz.prog.info? 59).map (·.size)=some 1:=by kernel_rfl
theorem gU:flat Tryz.prog 60=true:=by kernel_rfl
theorem fK:(Tryz.prog.info? 60).map (·.size)=some 1:=by kernel_rfl
theorem we:flat Tryz.prog 61=true:=by kernel_rfl
theorem C4:(Tryz.prog.info? 61).map (·.size)=some 1:=by kernel_rfl
theorem cS:j8 Tryz.prog 63=true:=by kernel_rfl
theorem aO:(Tryz.prog.info? 63).map (·.size)=some 2:=by kernel_rfl
theorem J0:flat Tryz.prog 64=true:=by kernel_rfl
theorem J8:(Tryz.prog.info? 64).map (·.size)=some 1:=by kernel_rfl
theorem vw:j8 Tryz.prog 66=true:=by kernel_rfl
theorem gK:(Tryz.prog.info? 66).map (·.size)=some 4:=by kernel_rfl
theorem Ka:j8 Tryz.prog 68=true:=by kernel_rfl
theorem Dg:(Tryz.prog.info? 68).map (·.size)=some 5:=by kernel_rfl
theorem tP:j8 Tryz.prog 70=true:=by kernel_rfl
theorem ir:(Tryz.prog.info? 70).map (·.size)=some 4:=by kernel_rfl
theorem DI:j8 Tryz.prog 72=true:=by kernel_rfl
theorem iS:(Tryz.prog.info? 72).map (·.size)=some 9:=by kernel_rfl
theorem JX:j8 Tryz.prog 74=true:=by kernel_rfl
theorem Ee:(Tryz.prog.info? 74).map (·.size)=some 5:=by kernel_rfl
theorem Kf:j8 Tryz.prog 94=true:=by kernel_rfl
theorem Kd:(Tryz.prog.info? 94).map (·.size)=some 0:=by kernel_rfl
theorem HS:j8 Tryz.prog 109=true:=by kernel_rfl
theorem H6:(Tryz.prog.info? 109).map (·.size)=some 0:=by kernel_rfl
theorem y9:flat Tryz.prog 196=true:=by kernel_rfl
theorem I1:(Tryz.prog.info? 196).map (·.size)=some 1:=by kernel_rfl
theorem lZ:j8 Tryz.prog 206=true:=by kernel_rfl
theorem cA:(Tryz.prog.info? 206).map (·.size)=some 3:=by kernel_rfl
theorem oo:j8 Tryz.prog 214=true:=by kernel_rfl
theorem gT:(Tryz.prog.info? 214).map (·.size)=some 2:=by kernel_rfl
theorem ry:j8 Tryz.prog 216=true:=by kernel_rfl
theorem dH:(Tryz.prog.info? 216).map (·.size)=some 4:=by kernel_rfl
theorem lr:j8 Tryz.prog 219=true:=by kernel_rfl
theorem cX:(Tryz.prog.info? 219).map (·.size)=some 3:=by kernel_rfl
theorem wY:(Tryz.prog.info? 271).map (·.size)=some 1:=by kernel_rfl
theorem lh:flat Tryz.prog 326=true:=by kernel_rfl
theorem ji:(Tryz.prog.info? 326).map (·.size)=some 1:=by kernel_rfl
theorem EF:(Tryz.prog.info? 352).map (·.size)=some 3:=by kernel_rfl
theorem s8:j8 Tryz.prog 357=true:=by kernel_rfl
theorem dC:(Tryz.prog.info? 357).map (·.size)=some 2:=by kernel_rfl
theorem zR:j8 Tryz.prog 377=true:=by kernel_rfl
theorem qI:(Tryz.prog.info? 377).map (·.size)=some 16:=by kernel_rfl
theorem iU:dX Tryz.prog 3=some (some (.int .i64 0),1,8):=by kernel_rfl
theorem mX:dX Tryz.prog 5=some (some (.int .u8 0),1,1):=by kernel_rfl
theorem qo:dX Tryz.prog 63=some (some (.agg #[.slice none 0 0,.slice none 0 0]),2,48):=by kernel_rfl
theorem C9:dX Tryz.prog 68=some (some (.agg #[.int .i64 0,.slice none 0 0,.slice none 0 0,.slice none 0 0,.slice none 0 0]),5,104):=by kernel_rfl
theorem yX:dX Tryz.prog 72=some (some (.agg #[.int .i64 0,.slice none 0 0,.slice none 0 0,.slice none 0 0,.slice none 0 0,.slice none 0 0,.slice none 0 0,.slice none 0 0,.slice none 0 0]),9,200):=by kernel_rfl
theorem Dx:dX Tryz.prog 74=some (some (.agg #[.int .i64 0,.slice none 0 0,.slice none 0 0,.slice none 0 0,.slice none 0 0]),5,104):=by kernel_rfl
theorem lW:dX Tryz.prog 206=some (some (.agg #[.string ⟨#[]⟩,.slice none 0 0,.slice none 0 0]),3,64):=by kernel_rfl
theorem Fe:dX Tryz.prog 214=some (some (.agg #[.int .i64 0,.int .i64 0]),2,16):=by kernel_rfl
theorem gE:dX Tryz.prog 216=some (some (.agg #[.int .i64 0,.int .i64 0,.string ⟨#[]⟩,.int .i64 0]),4,40):=by kernel_rfl
theorem nT:dX Tryz.prog 219=some (some (.agg #[.int .i64 0,.int .i64 0,.int .i64 0]),3,24):=by kernel_rfl
theorem Jq:dX Tryz.prog 326=some (some (.slice none 0 0),1,24):=by kernel_rfl
theorem iO:dX Tryz.prog 357=some (some (.agg #[.int .i64 0,.int .i64 0]),2,16):=by kernel_rfl
theorem ky:(Tryz.prog.info? 24).bind (·.zero)=some (.agg #[.int .i64 0,.int .i64 0,.slice none 0 0]):=by kernel_rfl
theorem J1:(Tryz.prog.info? 27).bind (·.zero)=some (.int .i64 0):=by kernel_rfl
theorem C5:(Tryz.prog.info? 46).bind (·.zero)=some (.agg #[.int .i64 0,.int .i64 0,.slice none 0 0]):=by kernel_rfl
theorem Dt:(Tryz.prog.info? 50).bind (·.zero)=some (.agg #[.int .i64 0,.int .i64 0,.slice none 0 0]):=by kernel_rfl
theorem JF:(Tryz.prog.info? 59).bind (·.zero)=some (.slice none 0 0):=by kernel_rfl
theorem cY:(Tryz.prog.info? 63).bind (·.zero)=some (.agg #[.slice none 0 0,.slice none 0 0]):=by kernel_rfl
theorem JW:(Tryz.prog.info? 64).bind (·.zero)=some (.slice none 0 0):=by kernel_rfl
theorem qg:(Tryz.prog.info? 66).bind (·.zero)=some (.agg #[.slice none 0 0,.slice none 0 0,.slice none 0 0,.slice none 0 0]):=by kernel_rfl
theorem JZ:(Tryz.prog.info? 68).bind (·.zero)=some (.agg #[.int .i64 0,.slice none 0 0,.slice none 0 0,.slice none 0 0,.slice none 0 0]):=by kernel_rfl
theorem sc:(Tryz.prog.info? 70).bind (·.zero)=some (.agg #[.slice none 0 0,.slice none 0 0,.slice none 0 0,.slice none 0 0]):=by kernel_rfl
theorem Dv:(Tryz.prog.info? 72).bind (·.zero)=some (.agg #[.int .i64 0,.slice none 0 0,.slice none 0 0,.slice none 0 0,.slice none 0 0,.slice none 0 0,.slice none 0 0,.slice none 0 0,.slice none 0 0]):=by kernel_rfl
theorem JD:(Tryz.prog.info? 74).bind (·.zero)=some (.agg #[.int .i64 0,.slice none 0 0,.slice none 0 0,.slice none 0 0,.slice none 0 0]):=by kernel_rfl
theorem IP:(Tryz.prog.info? 94).bind (·.zero)=some (.agg #[]):=by kernel_rfl
theorem GX:(Tryz.prog.info? 109).bind (·.zero)=some (.agg #[]):=by kernel_rfl
theorem GR:(Tryz.prog.info? 125).bind (·.zero)=some (.agg #[.int .i64 0,.int .i64 0,.int .i64 0]):=by kernel_rfl
theorem Ib:(Tryz.prog.info? 196).bind (·.zero)=some (.pointer none):=by kernel_rfl
theorem nO:(Tryz.prog.info? 206).bind (·.zero)=some (.agg #[.string ⟨#[]⟩,.slice none 0 0,.slice none 0 0]):=by kernel_rfl
theorem Cl:(Tryz.prog.info? 214).bind (·.zero)=some (.agg #[.int .i64 0,.int .i64 0]):=by kernel_rfl
theorem EU:(Tryz.prog.info? 216).bind (·.zero)=some (.agg #[.int .i64 0,.int .i64 0,.string ⟨#[]⟩,.int .i64 0]):=by kernel_rfl
theorem nK:(Tryz.prog.info? 219).bind (·.zero)=some (.agg #[.int .i64 0,.int .i64 0,.int .i64 0]):=by kernel_rfl
theorem pR:(Tryz.prog.info? 271).bind (·.zero)=some (.agg #[.pointer none]):=by kernel_rfl
theorem G3:(Tryz.prog.info? 307).bind (·.zero)=some (.agg #[.slice none 0 0,.slice none 0 0,.slice none 0 0]):=by kernel_rfl
theorem FG:(Tryz.prog.info? 352).bind (·.zero)=some (.agg #[.slice none 0 0,.int .i64 0,.bool false]):=by kernel_rfl
theorem pC:(Tryz.prog.info? 357).bind (·.zero)=some (.agg #[.int .i64 0,.int .i64 0]):=by kernel_rfl
theorem G1:(Tryz.prog.info? 375).bind (·.zero)=some (.agg #[.slice none 0 0,.slice none 0 0,.slice none 0 0,.slice none 0 0,.slice none 0 0,.slice none 0 0,.slice none 0 0,.slice none 0 0,.slice none 0 0,.slice none 0 0,.slice none 0 0,.slice none 0 0,.slice none 0 0,.slice none 0 0,.slice none 0 0,.slice none 0 0]):=by kernel_rfl
theorem w8:(Tryz.prog.info? 377).bind (·.zero)=some (.agg #[.slice none 0 0,.slice none 0 0,.slice none 0 0,.slice none 0 0,.slice none 0 0,.slice none 0 0,.slice none 0 0,.slice none 0 0,.slice none 0 0,.slice none 0 0,.slice none 0 0,.slice none 0 0,.slice none 0 0,.slice none 0 0,.slice none 0 0,.slice none 0 0]):=by kernel_rfl
theorem kl:bo Tryz.prog 24 0=some (0,some 1):=by kernel_rfl
theorem km:bo Tryz.prog 24 1=some (1,some 1):=by kernel_rfl
theorem cN:bo Tryz.prog 24 2=some (2,some 1):=by kernel_rfl
theorem uE:bo Tryz.prog 46 0=some (0,some 1):=by kernel_rfl
theorem u0:bo Tryz.prog 46 1=some (1,some 1):=by kernel_rfl
theorem jG:bo Tryz.prog 46 2=some (2,some 1):=by kernel_rfl
theorem tH:bo Tryz.prog 50 0=some (0,some 1):=by kernel_rfl
theorem tW:bo Tryz.prog 50 1=some (1,some 1):=by kernel_rfl
theorem jB:bo Tryz.prog 50 2=some (2,some 1):=by kernel_rfl
theorem cD:bo Tryz.prog 63 0=some (0,some 1):=by kernel_rfl
theorem cd:bo Tryz.prog 63 1=some (1,some 1):=by kernel_rfl
theorem vP:bo Tryz.prog 66 0=some (0,some 1):=by kernel_rfl
theorem vI:bo Tryz.prog 66 1=some (1,some 2):=by kernel_rfl
theorem vv:bo Tryz.prog 66 2=some (3,some 1):=by kernel_rfl
theorem uw:bo Tryz.prog 68 0=some (0,some 1):=by kernel_rfl
theorem HB:bo Tryz.prog 68 1=some (1,some 4):=by kernel_rfl
theorem lz:bo Tryz.prog 70 0=some (0,some 1):=by kernel_rfl
theorem ni:bo Tryz.prog 70 1=some (1,some 2):=by kernel_rfl
theorem lD:bo Tryz.prog 70 2=some (3,some 1):=by kernel_rfl
theorem mu:bo Tryz.prog 72 0=some (0,some 1):=by kernel_rfl
theorem Bz:bo Tryz.prog 72 1=some (1,some 4):=by kernel_rfl
theorem Bu:bo Tryz.prog 72 2=some (5,some 4):=by kernel_rfl
theorem vz:bo Tryz.prog 74 0=some (0,some 1):=by kernel_rfl
theorem Hy:bo Tryz.prog 74 1=some (1,some 4):=by kernel_rfl
theorem cf:bo Tryz.prog 206 0=some (0,some 1):=by kernel_rfl
theorem bN:bo Tryz.prog 206 1=some (1,some 2):=by kernel_rfl
theorem bM:bo Tryz.prog 214 0=some (0,some 1):=by kernel_rfl
theorem bX:bo Tryz.prog 214 1=some (1,some 1):=by kernel_rfl
theorem dg:bo Tryz.prog 216 0=some (0,some 2):=by kernel_rfl
theorem lQ:bo Tryz.prog 216 1=some (2,some 1):=by kernel_rfl
theorem jL:bo Tryz.prog 216 2=some (3,some 1):=by kernel_rfl
theorem cj:bo Tryz.prog 219 0=some (0,some 1):=by kernel_rfl
theorem eQ:bo Tryz.prog 219 1=some (1,some 1):=by kernel_rfl
theorem eE:bo Tryz.prog 219 2=some (2,some 1):=by kernel_rfl
theorem xC:bo Tryz.prog 263 0=some (0,some 1):=by kernel_rfl
theorem CA:bo Tryz.prog 263 1=some (1,some 1):=by kernel_rfl
theorem gr:bo Tryz.prog 269 0=some (0,some 1):=by kernel_rfl
theorem ja:bo Tryz.prog 269 1=some (1,some 1):=by kernel_rfl
theorem nq:bo Tryz.prog 269 2=some (2,some 1):=by kernel_rfl
theorem fO:bo Tryz.prog 269 3=some (3,some 1):=by kernel_rfl
theorem B0:bo Tryz.prog 271 0=some (0,some 1):=by kernel_rfl
theorem qJ:bo Tryz.prog 352 0=some (0,some 1):=by kernel_rfl
theorem fp:bo Tryz.prog 352 1=some (1,some 1):=by kernel_rfl
theorem db:bo Tryz.prog 352 2=some (2,some 1):=by kernel_rfl
theorem gv:bo Tryz.prog 357 0=some (0,some 1):=by kernel_rfl
theorem dZ:bo Tryz.prog 357 1=some (1,some 1):=by kernel_rfl
theorem ia:bo Tryz.prog 377 0=some (0,some 16):=by kernel_rfl
theorem gD  : ∀w,(Instr.build 24 #[]).run Tryz.prog w=.ok (.agg #[.int .i64 0,.int .i64 0,.slice none 0 0]) w:=fun w=>by kernel_rfl
theorem j0 {x0:Int}{x1:Int}:∀w,(Instr.build 24 #[(0,.int .i64 x0),(1,.int .i64 x1)]).run Tryz.prog w=.ok (.agg #[.int .i64 x0,.int .i64 x1,.slice none 0 0]) w:=fun w=>by kernel_rfl
theorem Cw  : ∀w,(Instr.build 46 #[]).run Tryz.prog w=.ok (.agg #[.int .i64 0,.int .i64 0,.slice none 0 0]) w:=fun w=>by kernel_rfl
theorem Es {x0:Int}{x1:Int}:∀w,(Instr.build 46 #[(0,.int .i64 x0),(1,.int .i64 x1)]).run Tryz.prog w=.ok (.agg #[.int .i64 x0,.int .i64 x1,.slice none 0 0]) w:=fun w=>by kernel_rfl
theorem Cs  : ∀w,(Instr.build 50 #[]).run Tryz.prog w=.ok (.agg #[.int .i64 0,.int .i64 0,.slice none 0 0]) w:=fun w=>by kernel_rfl
theorem FR {x0:Int}{x1:Int}:∀w,(Instr.build 50 #[(0,.int .i64 x0),(1,.int .i64 x1)]).run Tryz.prog w=.ok (.agg #[.int .i64 x0,.int .i64 x1,.slice none 0 0]) w:=fun w=>by kernel_rfl
theorem l5  : ∀w,(Instr.build 63 #[]).run Tryz.prog w=.ok (.agg #[.slice none 0 0,.slice none 0 0]) w:=fun w=>by kernel_rfl
theorem CP  : ∀w,(Instr.build 66 #[]).run Tryz.prog w=.ok (.agg #[.slice none 0 0,.slice none 0 0,.slice none 0 0,.slice none 0 0]) w:=fun w=>by kernel_rfl
theorem jE {x0:Option Addr}{x0n x0c:Nat}{x1_0:Option Addr}{x1_0n x1_0c:Nat}{x1_1:Option Addr}{x1_1n x1_1c:Nat}{x2:Option Addr}{x2n x2c:Nat}:∀w,(Instr.build 66 #[(0,.slice x0 x0n x0c),(1,.agg #[.slice x1_0 x1_0n x1_0c,.slice x1_1 x1_1n x1_1c]),(2,.slice x2 x2n x2c)]).run Tryz.prog w=.ok (.agg #[.slice x0 x0n x0c,.slice x1_0 x1_0n x1_0c,.slice x1_1 x1_1n x1_1c,.slice x2 x2n x2c]) w:=fun w=>by kernel_rfl
theorem uk {x0:Int}{x1_0:Option Addr}{x1_0n x1_0c:Nat}{x1_1_0:Option Addr}{x1_1_0n x1_1_0c:Nat}{x1_1_1:Option Addr}{x1_1_1n x1_1_1c:Nat}{x1_2:Option Addr}{x1_2n x1_2c:Nat}:∀w,(Instr.build 68 #[(0,.int .i64 x0),(1,.agg #[.slice x1_0 x1_0n x1_0c,.slice x1_1_0 x1_1_0n x1_1_0c,.slice x1_1_1 x1_1_1n x1_1_1c,.slice x1_2 x1_2n x1_2c])]).run Tryz.prog w=.ok (.agg #[.int .i64 x0,.slice x1_0 x1_0n x1_0c,.slice x1_1_0 x1_1_0n x1_1_0c,.slice x1_1_1 x1_1_1n x1_1_1c,.slice x1_2 x1_2n x1_2c]) w:=fun w=>by kernel_rfl
theorem BU  : ∀w,(Instr.build 70 #[]).run Tryz.prog w=.ok (.agg #[.slice none 0 0,.slice none 0 0,.slice none 0 0,.slice none 0 0]) w:=fun w=>by kernel_rfl
theorem nf {x0:Option Addr}{x0n x0c:Nat}{x1_0:Option Addr}{x1_0n x1_0c:Nat}{x1_1:Option Addr}{x1_1n x1_1c:Nat}{x2:Option Addr}{x2n x2c:Nat}:∀w,(Instr.build 70 #[(0,.slice x0 x0n x0c),(1,.agg #[.slice x1_0 x1_0n x1_0c,.slice x1_1 x1_1n x1_1c]),(2,.slice x2 x2n x2c)]).run Tryz.prog w=.ok (.agg #[.slice x0 x0n x0c,.slice x1_0 x1_0n x1_0c,.slice x1_1 x1_1n x1_1c,.slice x2 x2n x2c]) w:=fun w=>by kernel_rfl
theorem uR {x0:Int}{x1_0:Option Addr}{x1_0n x1_0c:Nat}{x1_1_0:Option Addr}{x1_1_0n x1_1_0c:Nat}{x1_1_1:Option Addr}{x1_1_1n x1_1_1c:Nat}{x1_2:Option Addr}{x1_2n x1_2c:Nat}:∀w,(Instr.build 72 #[(0,.int .i64 x0),(1,.agg #[.slice x1_0 x1_0n x1_0c,.slice x1_1_0 x1_1_0n x1_1_0c,.slice x1_1_1 x1_1_1n x1_1_1c,.slice x1_2 x1_2n x1_2c])]).run Tryz.prog w=.ok (.agg #[.int .i64 x0,.slice x1_0 x1_0n x1_0c,.slice x1_1_0 x1_1_0n x1_1_0c,.slice x1_1_1 x1_1_1n x1_1_1c,.slice x1_2 x1_2n x1_2c,.slice none 0 0,.slice none 0 0,.slice none 0 0,.slice none 0 0]) w:=fun w=>by kernel_rfl
theorem tR {x0:Int}{x2_0:Option Addr}{x2_0n x2_0c:Nat}{x2_1_0:Option Addr}{x2_1_0n x2_1_0c:Nat}{x2_1_1:Option Addr}{x2_1_1n x2_1_1c:Nat}{x2_2:Option Addr}{x2_2n x2_2c:Nat}:∀w,(Instr.build 72 #[(0,.int .i64 x0),(2,.agg #[.slice x2_0 x2_0n x2_0c,.slice x2_1_0 x2_1_0n x2_1_0c,.slice x2_1_1 x2_1_1n x2_1_1c,.slice x2_2 x2_2n x2_2c])]).run Tryz.prog w=.ok (.agg #[.int .i64 x0,.slice none 0 0,.slice none 0 0,.slice none 0 0,.slice none 0 0,.slice x2_0 x2_0n x2_0c,.slice x2_1_0 x2_1_0n x2_1_0c,.slice x2_1_1 x2_1_1n x2_1_1c,.slice x2_2 x2_2n x2_2c]) w:=fun w=>by kernel_rfl
theorem ue {x0:Int}{x1_0:Option Addr}{x1_0n x1_0c:Nat}{x1_1_0:Option Addr}{x1_1_0n x1_1_0c:Nat}{x1_1_1:Option Addr}{x1_1_1n x1_1_1c:Nat}{x1_2:Option Addr}{x1_2n x1_2c:Nat}:∀w,(Instr.build 74 #[(0,.int .i64 x0),(1,.agg #[.slice x1_0 x1_0n x1_0c,.slice x1_1_0 x1_1_0n x1_1_0c,.slice x1_1_1 x1_1_1n x1_1_1c,.slice x1_2 x1_2n x1_2c])]).run Tryz.prog w=.ok (.agg #[.int .i64 x0,.slice x1_0 x1_0n x1_0c,.slice x1_1_0 x1_1_0n x1_1_0c,.slice x1_1_1 x1_1_1n x1_1_1c,.slice x1_2 x1_2n x1_2c]) w:=fun w=>by kernel_rfl
theorem jx {x0:ByteArray}{x1_0:Option Addr}{x1_0n x1_0c:Nat}{x1_1:Option Addr}{x1_1n x1_1c:Nat}:∀w,(Instr.build 206 #[(0,.string x0),(1,.agg #[.slice x1_0 x1_0n x1_0c,.slice x1_1 x1_1n x1_1c])]).run Tryz.prog w=.ok (.agg #[.string x0,.slice x1_0 x1_0n x1_0c,.slice x1_1 x1_1n x1_1c]) w:=fun w=>by kernel_rfl
theorem pj {x0:Int}{x1:Int}:∀w,(Instr.build 214 #[(0,.int .i64 x0),(1,.int .i64 x1)]).run Tryz.prog w=.ok (.agg #[.int .i64 x0,.int .i64 x1]) w:=fun w=>by kernel_rfl
theorem lK {x0_0:Int}{x0_1:Int}{x1:ByteArray}{x2:Int}:∀w,(Instr.build 216 #[(0,.agg #[.int .i64 x0_0,.int .i64 x0_1]),(1,.string x1),(2,.int .i64 x2)]).run Tryz.prog w=.ok (.agg #[.int .i64 x0_0,.int .i64 x0_1,.string x1,.int .i64 x2]) w:=fun w=>by kernel_rfl
theorem iw {x0:Int}{x1:Int}{x2:Int}:∀w,(Instr.build 219 #[(0,.int .i64 x0),(1,.int .i64 x1),(2,.int .i64 x2)]).run Tryz.prog w=.ok (.agg #[.int .i64 x0,.int .i64 x1,.int .i64 x2]) w:=fun w=>by kernel_rfl
theorem Hd  : ∀w,(Instr.build 263 #[]).run Tryz.prog w=.ok (.agg #[.slice none 0 0,.bool false]) w:=fun w=>by kernel_rfl
theorem DQ {x0:Option Addr}{x0n x0c:Nat}{x2:Bool}:∀w,(Instr.build 269 #[(0,.slice x0 x0n x0c),(2,.bool x2)]).run Tryz.prog w=.ok (.agg #[.slice x0 x0n x0c,.int .i64 0,.bool x2,.int .i64 0]) w:=fun w=>by kernel_rfl
theorem Ga {x0:Option Addr}:∀w,(Instr.build 271 #[(0,.pointer x0)]).run Tryz.prog w=.ok (.agg #[.pointer x0]) w:=fun w=>by kernel_rfl
theorem xJ {x0:Option Addr}{x0n x0c:Nat}:∀w,(Instr.build 352 #[(0,.slice x0 x0n x0c)]).run Tryz.prog w=.ok (.agg #[.slice x0 x0n x0c,.int .i64 0,.bool false]) w:=fun w=>by kernel_rfl
theorem EE  : ∀w,(Instr.build 355 #[]).run Tryz.prog w=.ok (.agg #[.slice none 0 0,.slice none 0 0,.slice none 0 0,.slice none 0 0,.slice none 0 0,.slice none 0 0,.slice none 0 0,.slice none 0 0,.slice none 0 0,.slice none 0 0,.slice none 0 0,.slice none 0 0,.slice none 0 0,.slice none 0 0,.slice none 0 0,.slice none 0 0]) w:=fun w=>by kernel_rfl
theorem kP {x0:Int}{x1:Int}:∀w,(Instr.build 357 #[(0,.int .i64 x0),(1,.int .i64 x1)]).run Tryz.prog w=.ok (.agg #[.int .i64 x0,.int .i64 x1]) w:=fun w=>by kernel_rfl
theorem Kg {x_0:Int}{x_1:Int}{y_0:Int}{y_1:Int}:eqv Tryz.prog 20 214 (.agg #[.int .i64 x_0,.int .i64 x_1]) (.agg #[.int .i64 y_0,.int .i64 y_1])=some (decide (x_0=y_0∧x_1=y_1)):=by
 rw[show eqv Tryz.prog 20 214 (.agg #[.int .i64 x_0,.int .i64 x_1]) (.agg #[.int .i64 y_0,.int .i64 y_1])=some ((x_0 == y_0) && (x_1 == y_1)) from by kernel_rfl]
 congr 1
 rw[Bool.eq_iff_iff];simp only[Bool.and_eq_true,beq_iff_eq,AT,decide_eq_true_eq,and_assoc]
theorem Is:Tryz.prog.eqGuardType Tryz.prog.depth 216=false:=by kernel_rfl
theorem IC {x_0_0:Int}{x_0_1:Int}{x_1:ByteArray}{x_2:Int}{y_0_0:Int}{y_0_1:Int}{y_1:ByteArray}{y_2:Int}:eqv Tryz.prog 20 216 (.agg #[.int .i64 x_0_0,.int .i64 x_0_1,.string x_1,.int .i64 x_2]) (.agg #[.int .i64 y_0_0,.int .i64 y_0_1,.string y_1,.int .i64 y_2])=some (decide (x_0_0=y_0_0∧x_0_1=y_0_1∧x_1=y_1∧x_2=y_2)):=by
 rw[show eqv Tryz.prog 20 216 (.agg #[.int .i64 x_0_0,.int .i64 x_0_1,.string x_1,.int .i64 x_2]) (.agg #[.int .i64 y_0_0,.int .i64 y_0_1,.string y_1,.int .i64 y_2])=some (((x_0_0 == y_0_0) && (x_0_1 == y_0_1)) && ((x_1 == y_1) && (x_2 == y_2))) from by kernel_rfl]
 congr 1
 rw[Bool.eq_iff_iff];simp only[Bool.and_eq_true,beq_iff_eq,AT,decide_eq_true_eq,and_assoc]
theorem Gz:Tryz.prog.eqGuardType Tryz.prog.depth 219=false:=by kernel_rfl
theorem GS {x_0:Int}{x_1:Int}{x_2:Int}{y_0:Int}{y_1:Int}{y_2:Int}:eqv Tryz.prog 20 219 (.agg #[.int .i64 x_0,.int .i64 x_1,.int .i64 x_2]) (.agg #[.int .i64 y_0,.int .i64 y_1,.int .i64 y_2])=some (decide (x_0=y_0∧x_1=y_1∧x_2=y_2)):=by
 rw[show eqv Tryz.prog 20 219 (.agg #[.int .i64 x_0,.int .i64 x_1,.int .i64 x_2]) (.agg #[.int .i64 y_0,.int .i64 y_1,.int .i64 y_2])=some ((x_0 == y_0) && ((x_1 == y_1) && (x_2 == y_2))) from by kernel_rfl]
 congr 1
 rw[Bool.eq_iff_iff];simp only[Bool.and_eq_true,beq_iff_eq,AT,decide_eq_true_eq,and_assoc]
theorem I4:AM Tryz.prog 199=true:=by kernel_rfl
theorem J5:ob Tryz.prog 94=true:=by kernel_rfl
theorem Jp:ob Tryz.prog 109=true:=by kernel_rfl
theorem vq:ob Tryz.prog 271=true:=by kernel_rfl
theorem JE:enters Tryz.prog 50=true:=by kernel_rfl
theorem JJ:enters Tryz.prog 51=true:=by kernel_rfl
theorem JA:enters Tryz.prog 93=true:=by kernel_rfl
theorem JT:enters Tryz.prog 99=true:=by kernel_rfl
theorem gY:enters Tryz.prog 100=true:=by kernel_rfl
theorem lO:enters Tryz.prog 101=true:=by kernel_rfl
theorem y8:enters Tryz.prog 102=true:=by kernel_rfl
theorem u4:enters Tryz.prog 103=true:=by kernel_rfl
theorem H0:enters Tryz.prog 104=true:=by kernel_rfl
theorem Gy:enters Tryz.prog 106=true:=by kernel_rfl
theorem HT:enters Tryz.prog 148=true:=by kernel_rfl
theorem Ix:enters Tryz.prog 150=true:=by kernel_rfl
theorem wX:enters Tryz.prog 151=true:=by kernel_rfl
theorem GG:enters Tryz.prog 152=true:=by kernel_rfl
theorem H4:enters Tryz.prog 155=true:=by kernel_rfl
theorem IV:enters Tryz.prog 156=true:=by kernel_rfl
theorem jZ:enters Tryz.prog 157=true:=by kernel_rfl
theorem nN:enters Tryz.prog 191=true:=by kernel_rfl
theorem Im:enters Tryz.prog 195=true:=by kernel_rfl
theorem Ik:enters Tryz.prog 226=true:=by kernel_rfl
theorem Ja:enters Tryz.prog 227=true:=by kernel_rfl
theorem H2:enters Tryz.prog 229=true:=by kernel_rfl
theorem HV:enters Tryz.prog 231=true:=by kernel_rfl
theorem G5:enters Tryz.prog 236=true:=by kernel_rfl
theorem IF:enters Tryz.prog 237=true:=by kernel_rfl
theorem Iq:enters Tryz.prog 238=true:=by kernel_rfl
theorem Fp:enters Tryz.prog 239=true:=by kernel_rfl
theorem H9:enters Tryz.prog 241=true:=by kernel_rfl
theorem Ir:enters Tryz.prog 259=true:=by kernel_rfl
theorem G2:enters Tryz.prog 260=true:=by kernel_rfl
theorem Ip:enters Tryz.prog 264=true:=by kernel_rfl
theorem Iy:enters Tryz.prog 266=true:=by kernel_rfl
theorem IS:enters Tryz.prog 267=true:=by kernel_rfl
theorem Ii:enters Tryz.prog 273=true:=by kernel_rfl
theorem Jk:enters Tryz.prog 282=true:=by kernel_rfl
theorem HY:enters Tryz.prog 289=true:=by kernel_rfl
theorem Ia:enters Tryz.prog 290=true:=by kernel_rfl
theorem Co:enters Tryz.prog 342=true:=by kernel_rfl
theorem Iu:enters Tryz.prog 353=true:=by kernel_rfl
theorem IM:enters Tryz.prog 359=true:=by kernel_rfl
theorem IB:enters Tryz.prog 364=true:=by kernel_rfl
theorem Iv:enters Tryz.prog 368=true:=by kernel_rfl
theorem ID:enters Tryz.prog 369=true:=by kernel_rfl
theorem Io:enters Tryz.prog 370=true:=by kernel_rfl
theorem Jg:enters Tryz.prog 381=true:=by kernel_rfl
theorem GM:enters Tryz.prog 383=true:=by kernel_rfl
theorem I8:enters Tryz.prog 385=true:=by kernel_rfl
theorem HX:enters Tryz.prog 388=true:=by kernel_rfl
theorem HU:enters Tryz.prog 393=true:=by kernel_rfl
theorem Fk:enters Tryz.prog 394=true:=by kernel_rfl
theorem IX:enters Tryz.prog 395=true:=by kernel_rfl
theorem IQ:enters Tryz.prog 396=true:=by kernel_rfl
theorem EP:enters Tryz.prog 398=true:=by kernel_rfl
theorem H5:enters Tryz.prog 400=true:=by kernel_rfl
theorem IW:enters Tryz.prog 401=true:=by kernel_rfl
end Go.Proofs.YtkjabaihpkbfhaaGreat.T
namespace Go.Proofs.YtkjabaihpkbfhaaGreat.K
open Go Go.RowKit
variable {ds:List Deferred}
section
variable {P:Program} {ops:Array Oper} {Q:Exit→Act→World→Prop} {a:Act} {n:Nat} {E:Env} {w w' W:World} {d:Nat}
variable {ty:TypeId} {ps:String} {af:Array Edge} {gd:Option (Nat×Bool)}
theorem Fb {i:Nat}{K:Act→World→Prop}{f:Nat}{l:List Operand}{tys:Array TypeId}{vs:List Value}{R:Ending→World→Prop}(I:Ag a n E ds)(hi:ops[i]?=some ⟨some d,.call { callee:=.value (.func f),args:=l.toArray,argTypes:=tys },ty,ps,af,gd⟩)
 (hw:Region.wanted ⟨some d,.call { callee:=.value (.func f),args:=l.toArray,argTypes:=tys },ty,ps,af,gd⟩ (yielded ops a.tmps)=true)
 (hn:Nat.blt d n=true) (hf:enters P f=true) (hv:mW E l=some vs) (hc:Calls P f vs.toArray w R) (k:∀e w',R e w'→∃v,e=.returned v∧∀a',Ag a' n ((d,v)::E) ds→K a' w'):wpOp P ops Q i K a w:=by
 unfold wpOp;simp only[hi];rw[if_pos hw];refine .inl ?_;simp only[Oper.wp,px I hf hv,Oper.upon];refine hc.mono fun e w' h=>?_;obtain⟨v,rfl,hk⟩:=k e w' h;exact hk _ (I.put hn v)
end
end Go.Proofs.YtkjabaihpkbfhaaGreat.K
namespace Go.Proofs.YtkjabaihpkbfhaaGreat.K
open Go Go.RowKit
def rep (v:Value)(n:Nat):List Value:=List.replicate n v
end Go.Proofs.YtkjabaihpkbfhaaGreat.K
namespace Go.Proofs.YtkjabaihpkbfhaaGreat.K
open Go Go.RowKit
variable {ds:List Deferred}
section
variable {P:Program} {ops:Array Oper} {Q:Exit→Act→World→Prop} {a:Act} {n:Nat} {E:Env} {w W:World} {rest:List Oper} {d:Nat}
variable {ty t e:TypeId} {ps:String} {af:Array Edge} {x y:Operand} {L:List As}
theorem Dk {ρ:Operand→Value}{dd:Option Tmp}{g:Option (Nat×Bool)}{sz m c k:Nat}{p q:Addr}{vs cs:List Value}(hx:ρ x=.pointer (some q))(hp:q=p.add k)(hy:ρ y=.agg vs.toArray)(h1:(P.info? t).map (·.size)=some vs.length)(hv:∀v∈vs,v.oneCell'=true)
 (s:Sat W w (row e sz (.slice (some p) m c) m cs::L)) (hk:k+vs.length≤cs.length) :
 ∃w',(execOp ρ ⟨dd,.store t x y,ty,ps,af,g⟩).run P w=.ok .skip w'∧Sat W w' (row e sz (.slice (some p) m c) m (cs.take k++vs++cs.drop (k+vs.length))::L):=by
 obtain⟨i,hi,hiz⟩:=Option.map_eq_some_iff.1 h1;subst hp;obtain⟨w',hr,s'⟩:=p4 (P:=P) s hk hv;refine⟨w',?_,s'⟩
 have he:execOp ρ ⟨dd,.store t x y,ty,ps,af,g⟩=(storeVar t (p.add k) (.agg vs.toArray)).bind fun _=>Sem.pure Next.skip:=by
  show (Instr.storeAt t (ρ x) (ρ y)).bind (fun _=>Sem.pure Next.skip)=_;rw[hx,hy]
  rfl
 have h2:(storeVar t (p.add k) (.agg vs.toArray)).run P w=.ok () w':=by
  simp[storeVar,sizeOf,typeInfo,hi,Value.cells,hiz,hr,go_sem]
 rw[he,Sem.run_bind',h2]
 rfl
theorem G6 {sz m c:Nat}(k:Nat){p q:Addr}{vs cs:List Value}(I:Ag a n E ds)(hx:fE E x=some (.pointer (some q)))(hp:q=p.add k)(hy:fE E y=some (.agg vs.toArray))(h1:(P.info? t).map (·.size)=some vs.length)(hv:∀v∈vs,v.oneCell'=true)
 (s:Sat W w (row e sz (.slice (some p) m c) m cs::L)) (hk:k+vs.length≤cs.length)
 (kk:∀w',Sat W w' (row e sz (.slice (some p) m c) m (cs.take k++vs++cs.drop (k+vs.length))::L)→wpList P ops Q rest a w'):wpList P ops Q (⟨none,.store t x y,ty,ps,af,none⟩::rest) a w:=by
 obtain⟨w',hr,s'⟩:=Dk (dd:=none) (ty:=ty) (ps:=ps) (af:=af) (g:=none) (I.ev hx) hp (I.ev hy) h1 hv s hk;exact HK I rfl rfl hr (kk w' s')
end
end Go.Proofs.YtkjabaihpkbfhaaGreat.K
namespace Go.Proofs.YtkjabaihpkbfhaaGreat.Wk
open Go Go.RowKit Go.Proofs.YtkjabaihpkbfhaaGreat Go.Proofs.YtkjabaihpkbfhaaGreat.K Go.Proofs.YtkjabaihpkbfhaaGreat.T
abbrev bA:=Int×Int
def gJ:Int:=1000000000
theorem dM:gJ=1000000000:=rfl
def bJ (l:List bA)(n:Int):Prop:=∃r∈l,r.1≤n∧n≤r.2
theorem zW (n:Int):bJ [] n↔False:=by simp[bJ]
theorem bW (r:bA)(l:List bA)(n:Int):bJ (r::l) n↔(r.1≤n∧n≤r.2)∨bJ l n:=by simp[bJ]
theorem dR (l m:List bA)(n:Int):bJ (l++m) n↔bJ l n∨bJ m n:=by simp[bJ,or_and_right,exists_or]
theorem jU (r:bA)(n:Int):bJ [r] n↔r.1≤n∧n≤r.2:=by simp[bJ]
def can:List bA→Prop
 | []=>True
 | r::l=>1≤r.1∧r.1≤r.2∧r.2≤gJ∧(∀s∈l,r.2+1<s.1)∧can l
theorem can.tail {r:bA}{l:List bA}(h:can (r::l)):can l:=h.2.2.2.2
theorem can.each:∀ {l:List bA},can l→∀s∈l,1≤s.1∧s.1≤s.2∧s.2≤gJ
 | _ :: _, h, s, hs => by
   rcases List.mem_cons.1 hs with rfl | hs
   ·
    exact⟨h.1,h.2.1,h.2.2.1⟩
   ·
    exact can.each h.tail s hs
theorem can.bounds {l:List bA}(h:can l){n:Int}(hn:bJ l n):1≤n∧n≤gJ:=by
 obtain⟨s,hs,h1,h2⟩:=hn;have:=h.each s hs;omega
theorem can.oW {r:bA}{l:List bA}(h:can (r::l)){n:Int}(hn:bJ l n):r.2+1<n:=by
 obtain⟨s,hs,h1,h2⟩:=hn;have:=h.2.2.2.1 s hs;omega
theorem can.head_mem {r:bA}{l:List bA}(h:can (r::l)):bJ (r::l) r.1∧bJ (r::l) r.2∧¬bJ (r::l) (r.2+1):=by
 refine⟨(bW _ _ _).2 (.inl ⟨Int.le_refl _,h.2.1⟩),(bW _ _ _).2 (.inl ⟨h.2.1,Int.le_refl _⟩),fun hn=>?_⟩;rcases (bW _ _ _).1 hn with hn | hn
 ·
  omega
 ·
  have:=h.oW hn;omega
theorem yf:∀ {l m:List bA},can l→can m→(∀n,bJ l n↔bJ m n)→l=m
 | [],[],_,_,_=>rfl
 | [],r::m,_,hm,h=>absurd ((h r.1).2 hm.head_mem.1) (by simp[bJ])
 | r::l,[],hl,_,h=>absurd ((h r.1).1 hl.head_mem.1) (by simp[bJ])
 | r :: l, s :: m, hl, hm, h => by
   have h1:r.1=s.1:=by
    have a:=(h r.1).1 hl.head_mem.1;have b:=(h s.1).2 hm.head_mem.1
    have a1:s.1≤r.1:=by
     rcases (bW _ _ _).1 a with a | a
     ·
      exact a.1
     ·
      have:=hm.oW a;have:=hm.2.1;omega
    have b1:r.1≤s.1:=by
     rcases (bW _ _ _).1 b with b | b
     ·
      exact b.1
     ·
      have:=hl.oW b;have:=hl.2.1;omega
    omega
   have h2:r.2=s.2:=by
    have hr:=hl.2.1;have hs:=hm.2.1;have a:¬r.2+1≤s.2:=fun hlt=>hl.head_mem.2.2 ((h (r.2+1)).2 ((bW _ _ _).2 (.inl ⟨by omega,hlt⟩)))
    have b:¬s.2+1≤r.2:=fun hlt=>hm.head_mem.2.2 ((h (s.2+1)).1 ((bW _ _ _).2 (.inl ⟨by omega,hlt⟩)))
    omega
   have e:r=s:=Prod.ext h1 h2;subst e
   congr 1
   refine yf hl.tail hm.tail fun n=>?_;constructor
   ·
    intro hn;rcases (bW _ _ _).1 ((h n).1 ((bW _ _ _).2 (.inr hn))) with hx | hx
    ·
     have:=hl.oW hn;omega
    ·
     exact hx
   ·
    intro hn;rcases (bW _ _ _).1 ((h n).2 ((bW _ _ _).2 (.inr hn))) with hx | hx
    ·
     have:=hm.oW hn;omega
    ·
     exact hx
def gQ (r:bA):Option bA:=if max r.1 1≤min r.2 gJ then some (max r.1 1,min r.2 gJ) else none
def qw (r:bA):List bA→List bA
 | []=>[r]
 | x::l=>if r.2+1<x.1 then r::x::l else if x.2+1<r.1 then x::qw r l else qw (min r.1 x.1,max r.2 x.2) l
termination_by l=>l.length
theorem Fj (r:bA)(l:List bA)(hr:r.1≤r.2)(hl:can l):∀n,bJ (qw r l) n↔(r.1≤n∧n≤r.2)∨bJ l n:=by
 intro n
 induction l generalizing r with
 | nil=>rw[qw,jU];simp[bJ]
 | cons x l ih =>
   rw[qw]
   split
   ·
    rw[bW]
   ·
    split
    ·
     rw[bW,ih r hr hl.tail,bW];constructor<;>(rintro (h | h | h)<;>simp[h])
    ·
     have hx:=hl.2.1;rw[ih _ (by simp only;omega) hl.tail,bW];simp only;constructor
     ·
      rintro (h | h)
      ·
       by_cases h2:r.1≤n∧n≤r.2
       ·
        exact .inl h2
       ·
        exact .inr (.inl (by omega))
      ·
       exact .inr (.inr h)
     ·
      rintro (h | h | h)
      ·
       exact .inl (by omega)
      ·
       exact .inl (by omega)
      ·
       exact .inr h
theorem E9 (r:bA)(l:List bA)(h1:1≤r.1)(hr:r.1≤r.2)(h2:r.2≤gJ)(hl:can l):can (qw r l)∧∀b:Int,b+1<r.1→(∀s∈l,b+1<s.1)→∀s∈qw r l,b+1<s.1:=by
 induction l generalizing r with
 | nil =>
   rw[qw];exact⟨⟨h1,hr,h2,(fun s hs=>by cases hs),trivial⟩,fun b hb _ s hs=>by simp at hs;subst hs;exact hb⟩
 | cons x l ih =>
   have hx:=hl.2.1;have hx1:=hl.1;have hx2:=hl.2.2.1;rw[qw]
   split
   ·
    rename_i hlt;refine⟨⟨h1,hr,h2,fun s hs=>?_,hl⟩,fun b hb hq s hs=>?_⟩
    ·
     rcases List.mem_cons.1 hs with rfl | hs
     ·
      exact hlt
     ·
      have:=hl.2.2.2.1 s hs;omega
    ·
     rcases List.mem_cons.1 hs with rfl | hs
     ·
      exact hb
     ·
      exact hq s hs
   ·
    split
    ·
     rename_i hgt;obtain⟨hc,hb⟩:=ih r h1 hr h2 hl.tail;refine⟨⟨hx1,hx,hx2,hb x.2 hgt hl.2.2.2.1,hc⟩,fun b hb2 hq s hs=>?_⟩;rcases List.mem_cons.1 hs with rfl | hs
     ·
      exact hq _ (by simp)
     ·
      exact hb b hb2 (fun s hs=>hq s (by simp[hs])) s hs
    ·
     obtain⟨hc,hb⟩:=ih (min r.1 x.1,max r.2 x.2) (by simp only;omega) (by simp only;omega) (by simp only;omega) hl.tail;refine⟨hc,fun b hb2 hq s hs=>?_⟩;have:=hq x (by simp);exact hb b (by simp only;omega) (fun s hs=>hq s (by simp[hs])) s hs
def av (l:List bA):List bA:=l.foldr (fun r acc=>match gQ r with | some c=>qw c acc | none=>acc) []
theorem nt {r c:bA}(h:gQ r=some c):1≤c.1∧c.1≤c.2∧c.2≤gJ∧∀n,(c.1≤n∧n≤c.2)↔(1≤n∧n≤gJ∧r.1≤n∧n≤r.2):=by
 unfold gQ at h
 split at h
 ·
  cases h;refine⟨by simp only;omega,by simp only;omega,by simp only;omega,fun n=>by simp only;omega⟩
 ·
  cases h
theorem tJ {r:bA}(h:gQ r=none):∀n,¬(1≤n∧n≤gJ∧r.1≤n∧n≤r.2):=by
 unfold gQ at h
 split at h
 ·
  cases h
 ·
  intro n;omega
theorem sj:∀l:List bA,can (av l)∧∀n,bJ (av l) n↔(1≤n∧n≤gJ∧bJ l n)
 | []=>⟨trivial,fun n=>by simp[av,bJ]⟩
 | r :: l => by
   obtain⟨hc,hm⟩:=sj l;have e:av (r::l)=match gQ r with | some c=>qw c (av l) | none=>av l:=rfl
   rw[e];cases h:gQ r with
   | none =>
     refine⟨hc,fun n=>?_⟩;have hn:=tJ h n;simp only;rw[hm,bW];constructor
     ·
      rintro ⟨a,b,c⟩;exact⟨a,b,.inr c⟩
     ·
      rintro ⟨a,b,c | c⟩
      ·
       exact absurd ⟨a,b,c⟩ hn
      ·
       exact⟨a,b,c⟩
   | some c =>
     obtain⟨h1,h2,h3,h4⟩:=nt h;refine⟨(E9 c _ h1 h2 h3 hc).1,fun n=>?_⟩;simp only;rw[Fj c _ h2 hc,h4,hm,bW];constructor
     ·
      rintro (⟨a,b,d⟩ | ⟨a,b,d⟩)
      ·
       exact⟨a,b,.inl d⟩
      ·
       exact⟨a,b,.inr d⟩
     ·
      rintro ⟨a,b,d | d⟩
      ·
       exact .inl ⟨a,b,d⟩
      ·
       exact .inr ⟨a,b,d⟩
theorem eI (l:List bA):can (av l):=(sj l).1
theorem mS (l:List bA)(n:Int):bJ (av l) n↔(1≤n∧n≤gJ∧bJ l n):=(sj l).2 n
theorem oY {l m:List bA}(hm:can m)(h:∀n,bJ m n↔(1≤n∧n≤gJ∧bJ l n)):m=av l:=yf hm (eI l) fun n=>by rw[h,mS]
theorem vH {l:List bA}(h:can l):av l=l:=(oY h fun n=>⟨fun hn=>⟨(h.bounds hn).1,(h.bounds hn).2,hn⟩,fun hn=>hn.2.2⟩).symm
theorem zI {l m:List bA}(h:∀n,1≤n→n≤gJ→(bJ l n↔bJ m n)):av l=av m:=oY (eI l) fun n=>by
 rw[mS];constructor
 ·
  rintro ⟨a,b,c⟩;exact⟨a,b,(h n a b).1 c⟩
 ·
  rintro ⟨a,b,c⟩;exact⟨a,b,(h n a b).2 c⟩
theorem lC {l m:List bA}(hl:can l)(hm:can m)(h:∀r∈l,∀s∈m,r.2+1<s.1):can (l++m):=by
 induction l with
 | nil=>exact hm
 | cons x l ih =>
   refine⟨hl.1,hl.2.1,hl.2.2.1,fun s hs=>?_,ih hl.tail fun r hr=>h r (by simp[hr])⟩;rcases List.mem_append.1 hs with hs | hs
   ·
    exact hl.2.2.2.1 s hs
   ·
    exact h x (by simp) s hs
theorem wa {l m:List bA}(h:can (l++m)):can l:=by
 induction l with
 | nil=>trivial
 | cons x l ih=>exact⟨h.1,h.2.1,h.2.2.1,fun s hs=>h.2.2.2.1 s (by simp[hs]),ih h.2.2.2.2⟩
theorem DU {l m:List bA}(h:can (l++m)):can m:=by
 induction l with
 | nil=>exact h
 | cons x l ih=>exact ih h.2.2.2.2
theorem DM {l m:List bA}(h:can (l++m)):∀r∈l,∀s∈m,r.2+1<s.1:=by
 induction l with
 | nil=>intro r hr;cases hr
 | cons x l ih =>
   intro r hr s hs;rcases List.mem_cons.1 hr with rfl | hr
   ·
    exact h.2.2.2.1 s (by simp[hs])
   ·
    exact ih h.2.2.2.2 r hr s hs
def fZ (out:List bA)(r:bA):List bA:=match out.getLast? with
 | none=>[r]
 | some x=>if r.1≤x.2+1 then out.dropLast++[(x.1,max x.2 r.2)] else out++[r]
theorem Eu (r:bA):fZ [] r=[r]:=rfl
theorem mV (out:List bA)(x r:bA):fZ (out++[x]) r=if r.1≤x.2+1 then out++[(x.1,max x.2 r.2)] else out++[x]++[r]:=by
 unfold fZ;simp
theorem FQ {out:List bA}{r:bA}(ho:can out)(h1:1≤r.1)(hr:r.1≤r.2)(h2:r.2≤gJ)(hs:∀s∈out,s.1≤r.1):can (fZ out r)∧(∀n,bJ (fZ out r) n↔bJ out n∨(r.1≤n∧n≤r.2))∧∀s∈fZ out r,s.1≤r.1:=by
 rcases List.eq_nil_or_concat out with rfl | ⟨o,x,rfl⟩
 ·
  rw[Eu];exact⟨⟨h1,hr,h2,(fun s hs=>by cases hs),trivial⟩,fun n=>by simp[bJ],fun s hs=>by simp at hs;subst hs;exact Int.le_refl _⟩
 ·
  rw[List.concat_eq_append]at *;have hx:=(DU ho);have hxr:=hs x (by simp);rw[mV];have hc:=DM ho
  split
  ·
   rename_i hle;refine⟨lC (wa ho) ⟨hx.1,by have:=hx.2.1;simp only;omega,by have:=hx.2.2.1;simp only;omega,(fun s hs=>by cases hs),trivial⟩ fun a ha b hb=>?_,fun n=>?_,fun s hs2=>?_⟩
   ·
    simp at hb;subst hb;exact hc a ha x (by simp)
   ·
    have:=hx.2.1;simp only[dR,jU];constructor
    ·
     rintro (h | h)
     ·
      exact .inl (.inl h)
     ·
      by_cases hn:n≤x.2
      ·
       exact .inl (.inr ⟨h.1,hn⟩)
      ·
       exact .inr (by omega)
    ·
     rintro ((h | h) | h)
     ·
      exact .inl h
     ·
      exact .inr (by omega)
     ·
      exact .inr (by omega)
   ·
    rcases List.mem_append.1 hs2 with h | h
    ·
     exact hs s (by simp[h])
    ·
     simp at h;subst h;exact hxr
  ·
   rename_i hgt;refine⟨lC ho ⟨h1,hr,h2,(fun s hs=>by cases hs),trivial⟩ fun a ha b hb=>?_,fun n=>by rw[dR _ [r],jU],fun s hs2=>?_⟩
   ·
    simp at hb;subst hb;rcases List.mem_append.1 ha with ha | ha
    ·
     have:=hc a ha x (by simp);have:=hx.2.1;omega
    ·
     simp at ha;subst ha;omega
   ·
    rcases List.mem_append.1 hs2 with h | h
    ·
     exact hs s h
    ·
     simp at h;subst h;exact Int.le_refl _
theorem p6:∀(l out:List bA),can out→(∀r∈l,1≤r.1∧r.1≤r.2∧r.2≤gJ)→(∀s∈out,∀r∈l,s.1≤r.1)→l.Pairwise (fun a b=>a.1≤b.1)→
 can (l.foldl fZ out)∧∀n,bJ (l.foldl fZ out) n↔bJ out n∨bJ l n
 | [],out,ho,_,_,_=>⟨ho,fun n=>by simp[bJ]⟩
 | r :: l, out, ho, hl, hs, hp => by
   obtain⟨h1,h2,h3⟩:=hl r (by simp);obtain⟨c1,c2,c3⟩:=FQ ho h1 h2 h3 (fun s h=>hs s h r (by simp));obtain⟨d1,d2⟩:=p6 l (fZ out r) c1 (fun s h=>hl s (by simp[h])) (fun s h t ht=>Int.le_trans (c3 s h) ((List.pairwise_cons.1 hp).1 t ht)) (List.pairwise_cons.1 hp).2;refine⟨d1,fun n=>?_⟩;rw[List.foldl_cons,d2,c2,bW,or_assoc]
def dV:List bA→List bA→List bA
 | [],_=>[]
 | _::_,[]=>[]
 | x::xs,y::ys=>(if max x.1 y.1≤min x.2 y.2 then [(max x.1 y.1,min x.2 y.2)] else [])++(if x.2<y.2 then dV xs (y::ys) else dV (x::xs) ys)
termination_by x y=>x.length+y.length
theorem w6 (x:List bA):dV x []=[]:=by cases x<;>simp[dV]
theorem p5 (x y:bA)(xs ys:List bA):dV (x::xs) (y::ys)=(if max x.1 y.1≤min x.2 y.2 then [(max x.1 y.1,min x.2 y.2)] else [])++(if x.2<y.2 then dV xs (y::ys) else dV (x::xs) ys):=by rw[dV]
theorem pt:∀(k:Nat) (xs ys:List bA),xs.length+ys.length≤k→can xs→can ys→can (dV xs ys)∧(∀n,bJ (dV xs ys) n↔bJ xs n∧bJ ys n)
 | k,[],ys,_,_,_=>by rw[show dV [] ys=[] from by simp[dV]];exact⟨trivial,fun n=>by simp[bJ]⟩
 | k,x::xs,[],_,_,_=>by rw[w6];exact⟨trivial,fun n=>by simp[bJ]⟩
 | 0,x::xs,y::ys,hk,_,_=>by simp at hk
 | k + 1, x :: xs, y :: ys, hk, hx, hy => by
   rw[p5];have hx1:=hx.2.1;have hy1:=hy.2.1
   by_cases hlt:x.2<y.2
   ·
    rw[if_pos hlt];obtain⟨c1,c2⟩:=pt k xs (y::ys) (by simp at hk ⊢;omega) hx.tail hy;have hmem:∀n,bJ (dV xs (y::ys)) n→x.2+1<n:=fun n hn=>hx.oW ((c2 n).1 hn).1
    have habove:∀s∈dV xs (y::ys),x.2+1<s.1:=fun s hs=>hmem s.1 ⟨s,hs,Int.le_refl _,(c1.each s hs).2.1⟩
    refine⟨?_,fun n=>?_⟩
    ·
     split
     ·
      refine lC (l:=[_]) ⟨by have:=hx.1;simp only;omega,by assumption,by have:=hx.2.2.1;simp only;omega,(fun s hs=>by cases hs),trivial⟩ c1 fun a ha b hb=>?_;simp at ha;subst ha;have:=habove b hb;simp only;omega
     ·
      exact c1
    ·
     rw[dR,c2,bW x xs,bW y ys]
     have e:bJ (if max x.1 y.1≤min x.2 y.2 then [(max x.1 y.1,min x.2 y.2)] else []) n↔(x.1≤n∧n≤x.2)∧(y.1≤n∧n≤y.2):=by
      split
      ·
       rw[jU];simp only;omega
      ·
       simp[bJ];omega
     rw[e];constructor
     ·
      rintro (⟨a,b⟩ | ⟨a,b⟩)
      ·
       exact⟨.inl a,.inl b⟩
      ·
       exact⟨.inr a,b⟩
     ·
      rintro ⟨a | a,b | b⟩
      ·
       exact .inl ⟨a,b⟩
      ·
       have:=hy.oW b;omega
      ·
       exact .inr ⟨a,.inl b⟩
      ·
       exact .inr ⟨a,.inr b⟩
   ·
    rw[if_neg hlt];obtain⟨c1,c2⟩:=pt k (x::xs) ys (by simp at hk ⊢;omega) hx hy.tail;have hmem:∀n,bJ (dV (x::xs) ys) n→y.2+1<n:=fun n hn=>hy.oW ((c2 n).1 hn).2
    have habove:∀s∈dV (x::xs) ys,y.2+1<s.1:=fun s hs=>hmem s.1 ⟨s,hs,Int.le_refl _,(c1.each s hs).2.1⟩
    refine⟨?_,fun n=>?_⟩
    ·
     split
     ·
      refine lC (l:=[_]) ⟨by have:=hx.1;simp only;omega,by assumption,by have:=hx.2.2.1;simp only;omega,(fun s hs=>by cases hs),trivial⟩ c1 fun a ha b hb=>?_;simp at ha;subst ha;have:=habove b hb;simp only;omega
     ·
      exact c1
    ·
     rw[dR,c2,bW x xs,bW y ys]
     have e:bJ (if max x.1 y.1≤min x.2 y.2 then [(max x.1 y.1,min x.2 y.2)] else []) n↔(x.1≤n∧n≤x.2)∧(y.1≤n∧n≤y.2):=by
      split
      ·
       rw[jU];simp only;omega
      ·
       simp[bJ];omega
     rw[e];constructor
     ·
      rintro (⟨a,b⟩ | ⟨a,b⟩)
      ·
       exact⟨.inl a,.inl b⟩
      ·
       exact⟨a,.inr b⟩
     ·
      rintro ⟨a | a,b | b⟩
      ·
       exact .inl ⟨a,b⟩
      ·
       exact .inr ⟨.inl a,b⟩
      ·
       have:=hx.oW a;omega
      ·
       exact .inr ⟨.inr a,b⟩
theorem Dm {x y:List bA}(hx:can x)(hy:can y):can (dV x y):=(pt _ x y (Nat.le_refl _) hx hy).1
theorem Eh {x y:List bA}(hx:can x)(hy:can y)(n:Int):bJ (dV x y) n↔bJ x n∧bJ y n:=(pt _ x y (Nat.le_refl _) hx hy).2 n
def lH:Int→List bA→List bA
 | next,[]=>if next≤gJ then [(next,gJ)] else []
 | next,r::l=>(if next<r.1 then [(next,r.1-1)] else [])++lH (r.2+1) l
theorem vp:∀(l:List bA) (next:Int),can l→1≤next→(∀s∈l,next≤s.1)→can (lH next l)∧(∀n,bJ (lH next l) n↔next≤n∧n≤gJ∧¬bJ l n)
 | [], next, _, h1, _ => by
   unfold lH
   split
   ·
    refine⟨⟨h1,by assumption,Int.le_refl _,(fun s hs=>by cases hs),trivial⟩,fun n=>?_⟩;rw[jU];simp[bJ]
   ·
    refine⟨trivial,fun n=>?_⟩;simp[bJ];omega
 | r :: l, next, hl, h1, hs => by
   have hr:=hl.2.1;have hr1:=hl.1;have hr2:=hl.2.2.1;obtain⟨c1,c2⟩:=vp l (r.2+1) hl.tail (by omega) (fun s h=>by have:=hl.2.2.2.1 s h;omega);have hn:=hs r (by simp);have habove:∀s∈lH (r.2+1) l,r.2+1≤s.1:=fun s hs=>((c2 s.1).1 ⟨s,hs,Int.le_refl _,(c1.each s hs).2.1⟩).1
   rw[show lH next (r::l)=(if next<r.1 then [(next,r.1-1)] else [])++lH (r.2+1) l from rfl];refine⟨?_,fun n=>?_⟩
   ·
    split
    ·
     refine lC (l:=[_]) ⟨h1,by simp only;omega,by simp only;omega,(fun s hs=>by cases hs),trivial⟩ c1 fun a ha b hb=>?_;simp at ha;subst ha;have:=habove b hb;simp only;omega
    ·
     exact c1
   ·
    rw[dR,c2,bW r l]
    have e:bJ (if next<r.1 then [(next,r.1-1)] else []) n↔next≤n∧n<r.1:=by
     split
     ·
      rw[jU];simp only;omega
     ·
      simp[bJ];omega
    rw[e];constructor
    ·
     rintro (⟨a,b⟩ | ⟨a,b,c⟩)
     ·
      refine⟨a,by omega,fun h=>?_⟩;rcases h with h | h
      ·
       omega
      ·
       have:=hl.oW h;omega
     ·
      refine⟨by omega,b,fun h=>?_⟩;rcases h with h | h
      ·
       omega
      ·
       exact c h
    ·
     rintro ⟨a,b,c⟩
     by_cases hlt:n<r.1
     ·
      exact .inl ⟨a,hlt⟩
     ·
      refine .inr ⟨?_,b,fun h=>c (.inr h)⟩;have:¬(r.1≤n∧n≤r.2):=fun h=>c (.inl h)
      omega
theorem xE {l:List bA}(h:can l):can (lH 1 l):=(vp l 1 h (by omega) fun s hs=>(h.each s hs).1).1
theorem Gx {l:List bA}(h:can l)(n:Int):bJ (lH 1 l) n↔1≤n∧n≤gJ∧¬bJ l n:=(vp l 1 h (by omega) fun s hs=>(h.each s hs).1).2 n
def eB (a b:List bA):List bA:=dV a (lH 1 b)
theorem kN {a b:List bA}(ha:can a)(hb:can b):can (eB a b):=Dm ha (xE hb)
theorem mC {a b:List bA}(ha:can a)(hb:can b)(n:Int):bJ (eB a b) n↔bJ a n∧¬bJ b n:=by
 unfold eB;rw[Eh ha (xE hb),Gx hb];constructor
 ·
  rintro ⟨h1,_,_,h2⟩;exact⟨h1,h2⟩
 ·
  rintro ⟨h1,h2⟩;exact⟨h1,(ha.bounds h1).1,(ha.bounds h1).2,h2⟩
theorem xf {a b:List bA}(ha:can a)(hb:can b):eB a b=[]↔∀n,bJ a n→bJ b n:=by
 constructor
 ·
  intro h n hn
  by_cases hb2:bJ b n
  ·
   exact hb2
  ·
   have:=(mC ha hb n).2 ⟨hn,hb2⟩;rw[h]at this;simp[bJ]at this
 ·
  intro h;refine yf (kN ha hb) trivial fun n=>?_;rw[mC ha hb,zW];constructor
  ·
   rintro ⟨h1,h2⟩;exact h2 (h n h1)
  ·
   intro h;exact h.elim
def aX:List bA→Int×List bA
 | []=>(0,[])
 | r::l=>if r.1=1 then (r.2,l) else (0,r::l)
theorem fV (r:bA)(l:List bA):aX (r::l)=if r.1=1 then (r.2,l) else (0,r::l):=rfl
theorem o0 {l:List bA}(h:can l):0≤(aX l).1∧(aX l).1≤gJ∧can (aX l).2∧(∀s∈(aX l).2,(aX l).1+1<s.1)∧∀n,bJ l n↔(1≤n∧n≤(aX l).1)∨bJ (aX l).2 n:=by
 cases l with
 | nil=>exact⟨by simp[aX],by simp[aX,gJ],trivial,(fun s hs=>by cases hs),fun n=>by simp[aX,bJ];omega⟩
 | cons r l =>
   have h1:=h.1;have h2:=h.2.1;have h3:=h.2.2.1;rw[fV]
   split
   ·
    rename_i h0;refine⟨by simp only;omega,h3,h.tail,h.2.2.2.1,fun n=>?_⟩;rw[bW,h0]
   ·
    refine⟨Int.le_refl _,by simp[gJ],h,fun s hs=>?_,fun n=>?_⟩
    ·
     simp only;rcases List.mem_cons.1 hs with rfl | hs
     ·
      omega
     ·
      have:=h.2.2.2.1 s hs;omega
    ·
     simp only;constructor
     ·
      exact .inr
     ·
      rintro (a | a)
      ·
       omega
      ·
       exact a
def c4 (l:List bA):Int:=l.foldr (fun r n=>r.2-r.1+1+n) 0
theorem je:∀ {l:List bA},can l→0≤c4 l∧(c4 l=0↔l=[])
 | [],_=>by simp[c4]
 | r :: l, h => by
   have:=(je h.tail).1;have h2:=h.2.1;have e:c4 (r::l)=r.2-r.1+1+c4 l:=rfl;rw[e];exact⟨by omega,⟨fun h=>by omega,fun h=>by cases h⟩⟩
theorem uh:∀ {l:List bA} {b:Int},can l→0≤b→(∀s∈l,b<s.1)→c4 l≤gJ-b∨l=[]
 | [],_,_,_,_=>.inr rfl
 | r :: l, b, h, hb, hs => by
   have h2:=h.2.1;have h3:=h.2.2.1;have h4:=hs r (by simp);have e:c4 (r::l)=r.2-r.1+1+c4 l:=rfl;rw[e];rcases uh h.tail (show 0≤r.2 by omega) (fun s hs=>by have:=h.2.2.2.1 s hs;omega) with h5 | h5
   ·
    left;omega
   ·
    left;subst h5;simp[c4];omega
structure aL where
 rep:Int
 lo:Int
 hi:Int
structure aI where
 vec:List Int
 ab:List aL
def bR (c:List aL)(r:Nat):List bA:=c.filterMap fun s=>if s.rep=(r:Int) then some (s.lo,s.hi) else none
def cR (p:aI)(r:Nat):List bA:=(match p.vec[r]? with | some v=>[(1,v)] | none=>[])++bR p.ab r
def aP (p:aI)(r:Nat):List bA:=av (cR p r)
theorem bG (p:aI)(r:Nat):can (aP p r):=eI _
def cJ (f:Nat→Int):Nat→Nat
 | 0=>0
 | k+1=>if 0<f k then k+1 else cJ f k
theorem mP (f:Nat→Int):∀k,cJ f k≤k
 | 0=>Nat.le_refl _
 | k + 1 => by
   unfold cJ
   split
   ·
    exact Nat.le_refl _
   ·
    have:=mP f k;omega
theorem qe (f:Nat→Int):∀k r,cJ f k≤r→r<k→f r≤0
 | 0,r,_,h=>by omega
 | k + 1, r, h, h2 => by
   unfold cJ at h
   split at h
   ·
    omega
   ·
    by_cases e:r=k
    ·
     subst e;omega
    ·
     exact qe f k r h (by omega)
theorem xq (f:Nat→Int):∀k,0<cJ f k→0<f (cJ f k-1)
 | 0,h=>by simp[cJ]at h
 | k + 1, h => by
   unfold cJ at h ⊢
   split
   ·
    rw[Nat.add_sub_cancel];assumption
   ·
    rename_i h0;rw[if_neg h0]at h;exact xq f k h
def bw (f:Nat→List bA)(r:Nat):Int:=(aX (f r)).1
def aR (f:Nat→List bA)(r:Nat):List aL:=(aX (f r)).2.map fun s=>⟨(r:Int),s.1,s.2⟩
def fR (f:Nat→List bA):aI:=⟨(List.range (cJ (bw f) 16)).map (bw f),(List.range 16).flatMap (aR f)⟩
theorem om (c d:List aL)(r:Nat):bR (c++d) r=bR c r++bR d r:=by simp[bR]
theorem yG (f:Nat→List bA)(k r:Nat):bR (aR f k) r=if k=r then (aX (f r)).2 else []:=by
 unfold bR aR;rw[List.filterMap_map]
 by_cases h:k=r
 ·
  subst h;rw[if_pos rfl];have e:(fun s:aL=>if s.rep=(k:Int) then some (s.lo,s.hi) else none) ∘ (fun s:bA=>(⟨(k:Int),s.1,s.2⟩:aL))=some:=by funext s;simp
  rw[e,List.filterMap_some]
 ·
  rw[if_neg h];have e:(fun s:aL=>if s.rep=(r:Int) then some (s.lo,s.hi) else none) ∘ (fun s:bA=>(⟨(k:Int),s.1,s.2⟩:aL))=fun _=>none:=by funext s;simp;omega
  rw[e];simp
theorem rR (f:Nat→List bA)(r:Nat):∀k,bR ((List.range k).flatMap (aR f)) r=if r<k then (aX (f r)).2 else []
 | 0=>by simp[bR]
 | k + 1 => by
   rw[List.range_succ,List.flatMap_append,om,rR f r k,List.flatMap_singleton,yG]
   by_cases h:r<k
   ·
    rw[if_pos h,if_neg (by omega),if_pos (by omega),List.append_nil]
   ·
    by_cases e:k=r
    ·
     rw[if_neg h,if_pos e,if_pos (by omega),List.nil_append]
    ·
     rw[if_neg h,if_neg e,if_neg (by omega),List.nil_append]
theorem j3 {f:Nat→List bA}(h:∀r,can (f r)){r:Nat}(hr:r<16):aP (fR f) r=f r:=by
 refine (oY (h r) fun n=>?_).symm;obtain⟨h1,h2,h3,h4,h5⟩:=o0 (h r);have hb:∀n,bJ (f r) n→1≤n∧n≤gJ:=fun n hn=>(h r).bounds hn
 have hc:bR (fR f).ab r=(aX (f r)).2:=by
  show bR ((List.range 16).flatMap (aR f)) r=_;rw[rR,if_pos hr]
 unfold cR;rw[hc,dR]
 have hv:bJ (match (fR f).vec[r]? with | some v=>[((1:Int),v)] | none=>[]) n↔1≤n∧n≤(aX (f r)).1:=by
  show bJ (match ((List.range (cJ (bw f) 16)).map (bw f))[r]? with | some v=>[((1:Int),v)] | none=>[]) n↔_
  by_cases hs:r<cJ (bw f) 16
  ·
   rw[List.getElem?_map,List.getElem?_range hs];show bJ [((1:Int),bw f r)] n↔_;rw[jU];rfl
  ·
   have h0:=qe (bw f) 16 r (by omega) hr;rw[List.getElem?_eq_none (by simp;omega)];show bJ [] n↔_;rw[zW];unfold bw at h0;constructor
   ·
    intro h;exact h.elim
   ·
    intro h;omega
 rw[hv];constructor
 ·
  intro hn;have:=hb n hn;exact⟨this.1,this.2,(h5 n).1 hn⟩
 ·
  rintro ⟨_,_,hn⟩;exact (h5 n).2 hn
def gS (p:aI):aI:=fR (aP p)
theorem qt {f g:Nat→List bA}(h:∀r,r<16→f r=g r):fR f=fR g:=by
 have e1:∀k,k≤16→cJ (bw f) k=cJ (bw g) k:=by
  intro k
  induction k with
  | zero=>intro _;rfl
  | succ k ih =>
    intro hk;unfold cJ;have:bw f k=bw g k:=by unfold bw;rw[h k (by omega)]
    rw[this,ih (by omega)]
 unfold fR;rw[e1 16 (Nat.le_refl _)]
 congr 1
 ·
  refine List.map_congr_left fun r hr=>?_;have:=List.mem_range.1 hr;have h2:=mP (bw g) 16;unfold bw;rw[h r (by omega)]
 ·
  rw[List.flatMap_def,List.flatMap_def]
  congr 1
  refine List.map_congr_left fun r hr=>?_;have:=List.mem_range.1 hr;unfold aR;rw[h r (by omega)]
def iB (ps:List aI):aI:=fR fun r=>av (ps.flatMap fun p=>cR p r)
def ke (a b:aI):aI:=fR fun r=>eB (aP a r) (aP b r)
def Cd (a b:aI):Prop:=∀r,r<16→∀n,bJ (aP a r) n→bJ (aP b r) n
def x8 (p:aI)(rep num:Int):Prop:=0≤rep∧rep<16∧bJ (aP p rep.toNat) num
theorem qi (p:aI)(r:Nat)(n:Int):bJ (aP p r) n↔1≤n∧n≤gJ∧bJ (cR p r) n:=mS _ _
theorem DC (ps:List aI)(r:Nat)(n:Int):bJ (ps.flatMap fun p=>cR p r) n↔∃p∈ps,bJ (cR p r) n:=by
 induction ps with
 | nil=>simp[bJ]
 | cons p ps ih=>rw[List.flatMap_cons,dR,ih];simp
theorem sV (ps:List aI){r:Nat}(hr:r<16)(n:Int):bJ (aP (iB ps) r) n↔∃p∈ps,bJ (aP p r) n:=by
 unfold iB;rw[j3 (fun r=>eI _) hr,mS,DC];constructor
 ·
  rintro ⟨h1,h2,p,hp,h3⟩;exact⟨p,hp,(qi p r n).2 ⟨h1,h2,h3⟩⟩
 ·
  rintro ⟨p,hp,h⟩;obtain⟨h1,h2,h3⟩:=(qi p r n).1 h;exact⟨h1,h2,p,hp,h3⟩
theorem kI (a b:aI){r:Nat}(hr:r<16):aP (ke a b) r=eB (aP a r) (aP b r):=j3 (fun r=>kN (bG a r) (bG b r)) hr
theorem tZ (a b:aI):Cd a b↔∀r,r<16→eB (aP a r) (aP b r)=[]:=by
 constructor
 ·
  intro h r hr;exact (xf (bG a r) (bG b r)).2 (h r hr)
 ·
  intro h r hr;exact (xf (bG a r) (bG b r)).1 (h r hr)
def inc:List Int→Prop
 | []=>True
 | a::l=>(∀x∈l,a<x)∧inc l
def par:List Int→Int→Bool
 | [],_=>false
 | a::l,n=>(decide (a≤n)) ^^ par l n
theorem eD:∀ {l:List Int} {n:Int},(∀x∈l,n<x)→par l n=false
 | [],_,_=>rfl
 | a :: l, n, h => by
   have h1:=h a (by simp);rw[par,eD fun x hx=>h x (by simp[hx]),decide_eq_false (by omega)];rfl
theorem kW (l m:List Int)(n:Int):par (l++m) n=(par l n ^^ par m n):=by
 induction l with
 | nil=>simp[par]
 | cons a l ih=>simp[par,ih]
theorem CI:∀ {l m:List Int},inc l→inc m→(∀n,par l n=par m n)→l=m
 | [],[],_,_,_=>rfl
 | [], b :: m, _, hm, h => by
   have:=h b;rw[par,par,eD hm.1]at this;simp at this
 | a :: l, [], hl, _, h => by
   have:=h a;rw[par,par,eD hl.1]at this;simp at this
 | a :: l, b :: m, hl, hm, h => by
   have e:a=b:=by
    rcases Int.lt_trichotomy a b with hlt | he | hlt
    ·
     have:=h a;rw[par,par,eD hl.1,eD (fun x hx=>Int.lt_trans hlt (hm.1 x hx)),decide_eq_false (show ¬b≤a by omega)]at this;simp at this
    ·
     exact he
    ·
     have:=h b;rw[par,par,eD hm.1,eD (fun x hx=>Int.lt_trans hlt (hl.1 x hx)),decide_eq_false (show ¬a≤b by omega)]at this;simp at this
   subst e
   congr 1
   refine CI hl.2 hm.2 fun n=>?_;have:=h n;rw[par,par]at this
   revert this
   cases decide (a≤n)<;>cases par l n<;>cases par m n<;>simp
def bI:List bA→List Int
 | []=>[]
 | r::l=>r.1::(r.2+1)::bI l
theorem jY:∀l:List bA,(bI l).length=2 * l.length
 | []=>rfl
 | r::l=>by simp[bI,jY l];omega
theorem zd:∀ {l:List bA} {x:Int},x∈bI l→∃r∈l,x=r.1∨x=r.2+1
 | r :: l, x, h => by
   simp only[bI,List.mem_cons]at h;rcases h with rfl | rfl | h
   ·
    exact⟨r,by simp,.inl rfl⟩
   ·
    exact⟨r,by simp,.inr rfl⟩
   ·
    obtain⟨s,hs,h⟩:=zd h;exact⟨s,by simp[hs],h⟩
theorem u5 {r:bA}{l:List bA}(h:can (r::l)):∀x∈bI l,r.2+1<x:=fun x hx=>by
 obtain⟨s,hs,h2⟩:=zd hx;have h1:=h.2.2.2.1 s hs;have h3:=h.tail.each s hs;omega
theorem qR:∀ {l:List bA},can l→inc (bI l)
 | [],_=>trivial
 | r :: l, h => by
   have ha:=u5 h;refine⟨fun x hx=>?_,ha,qR h.tail⟩;have:=h.2.1;rcases List.mem_cons.1 hx with rfl | hx
   ·
    omega
   ·
    have:=ha x hx;omega
theorem qU:∀ {l:List bA},can l→∀n,par (bI l) n=true↔bJ l n
 | [],_,n=>by simp[bI,par,bJ]
 | r :: l, h, n => by
   have ih:=qU h.tail n;have ha:=u5 h;have hr:=h.2.1;rw[bI,par,par,bW,←ih]
   by_cases h1:r.1≤n
   ·
    by_cases h2:r.2+1≤n
    ·
     rw[decide_eq_true h1,decide_eq_true h2];have:¬(r.1≤n∧n≤r.2):=by omega
     simp[this]
    ·
     have hp:par (bI l) n=false:=eD fun x hx=>by have:=ha x hx;omega
     rw[decide_eq_true h1,decide_eq_false h2,hp];simp;omega
   ·
    have hp:par (bI l) n=false:=eD fun x hx=>by have:=ha x hx;omega
    rw[decide_eq_false h1,decide_eq_false (by omega),hp];simp;omega
theorem CL {t:List Int}{l:List bA}(ht:inc t)(hl:can l)(h:∀n,par t n=true↔bJ l n):t=bI l:=CI ht (qR hl) fun n=>by
 rw[Bool.eq_iff_iff,h,qU hl]
def qm (l:List Int)(n:Int):Nat:=l.countP fun x=>decide (x≤n)
theorem Cz (n:Int):qm [] n=0:=rfl
theorem iX (a:Int)(l:List Int)(n:Int):qm (a::l) n=qm l n+if a≤n then 1 else 0:=by
 unfold qm;rw[List.countP_cons];simp
theorem fC {l:List Int}{n:Int}(h:∀x∈l,n<x):qm l n=0:=by
 unfold qm;rw[List.countP_eq_zero];intro x hx;have:=h x hx;simp;omega
def AA:List Int→Prop
 | []=>True
 | a::l=>(∀x∈l,a≤x)∧AA l
def fD:List Int→List Int→Nat→List Int
 | [],[],_=>[]
 | _::_,[],_=>[]
 | [],b::os,d=>(if d=1 then [b] else [])++fD [] os (d-1)
 | a::is,b::os,d=>if a≤b then (if d=0 then [a] else [])++fD is (b::os) (d+1) else (if d=1 then [b] else [])++fD (a::is) os (d-1)
termination_by l m=>l.length+m.length
theorem z8 {a b:Int}{is os:List Int}{d:Nat}(h:a≤b):fD (a::is) (b::os) d=(if d=0 then [a] else [])++fD is (b::os) (d+1):=by rw[fD,if_pos h]
theorem w3 {a b:Int}{is os:List Int}{d:Nat}(h:¬a≤b):fD (a::is) (b::os) d=(if d=1 then [b] else [])++fD (a::is) os (d-1):=by rw[fD,if_neg h]
theorem tV (b:Int)(os:List Int)(d:Nat):fD [] (b::os) d=(if d=1 then [b] else [])++fD [] os (d-1):=by rw[fD]
theorem su (d:Nat):fD [] [] d=[]:=by rw[fD]
def fits (is os:List Int)(d:Nat):Prop:=∀n,qm os n≤d+qm is (n-1)
theorem CQ {a b:Int}{is os:List Int}{d:Nat}(h:fits (a::is) (b::os) d)(hs:∀x∈b::os,a≤x)(hi:∀x∈is,a≤x):fits is (b::os) (d+1):=fun n=>by
 have h1:=h n;rw[iX a]at h1
 by_cases hn:a≤n-1
 ·
  rw[if_pos hn]at h1;omega
 ·
  rw[if_neg hn]at h1;omega
theorem vi {b:Int}{is os:List Int}{d:Nat}(h:fits is (b::os) d)(hi:∀x∈is,b<x)(ho:∀x∈os,b≤x):1≤d∧fits is os (d-1):=by
 have h0:=h b;rw[iX,if_pos (Int.le_refl _),fC (l:=is) (fun x hx=>by have:=hi x hx;omega)]at h0;refine⟨by omega,fun n=>?_⟩;have h1:=h n;rw[iX]at h1
 by_cases hn:b≤n
 ·
  rw[if_pos hn]at h1;omega
 ·
  rw[fC (l:=os) (fun x hx=>by have:=ho x hx;omega)];omega
theorem pr:∀(k:Nat) (is os:List Int) (d:Nat),is.length+os.length≤k→AA is→AA os→fits is os d→d+is.length=os.length→
 inc (fD is os d)∧(∀m,(∀x∈is,m≤x)→(∀x∈os,m≤x)→∀x∈fD is os d,m≤x)∧∀n,par (fD is os d) n=(decide (0<d) ^^ decide (qm os n<d+qm is n))
 | k, [], [], d, hk, _, _, hf, hl => by
   obtain rfl:d=0:=by simpa using hl
   rw[su];exact⟨trivial,fun m _ _ x hx=>(by cases hx),fun n=>by simp[par,qm]⟩
 | k,a::is,[],d,hk,_,_,hf,hl=>by simp at hl
 | 0,[],b::os,d,hk,_,_,hf,hl=>by simp at hk
 | 0,a::is,b::os,d,hk,_,_,hf,hl=>by simp at hk
 | k + 1, [], b :: os, d, hk, _, ho, hf, hl => by
   obtain⟨hd,hf2⟩:=vi hf (fun x hx=>by cases hx) ho.1;simp only[List.length_nil,List.length_cons]at hl hk;obtain⟨h1,h2,h3⟩:=pr k [] os (d-1) (by simp only[List.length_nil];omega) trivial ho.2 hf2 (by simp only[List.length_nil];omega);rw[tV]
   by_cases gy:d=1
   ·
    subst gy;have hos:os=[]:=List.eq_nil_of_length_eq_zero (by omega);subst hos;rw[if_pos rfl,su];refine⟨⟨fun x hx=>(by cases hx),trivial⟩,fun m _ hm x hx=>hm x (by simpa using hx),fun n=>?_⟩
    by_cases hb:b≤n<;>simp[par,qm,hb]
   ·
    rw[if_neg gy,List.nil_append];refine⟨h1,fun m hi hm x hx=>h2 m hi (fun y hy=>hm y (by simp[hy])) x hx,fun n=>?_⟩;rw[h3,iX,Cz];have hf1:=hf2 n;rw[Cz]at hf1;rw[decide_eq_true (show 0<d by omega),decide_eq_true (show 0<d-1 by omega)]
    by_cases hb:b≤n
    ·
     rw[if_pos hb];congr 1;rw[decide_eq_decide];omega
    ·
     have hz:qm os n=0:=fC fun x hx=>by have:=ho.1 x hx;omega
     rw[if_neg hb,hz,decide_eq_true (by omega),decide_eq_true (by omega)]
 | k + 1, a :: is, b :: os, d, hk, hi, ho, hf, hl => by
   simp only[List.length_cons]at hl hk
   by_cases hab:a≤b
   ·
    have hbs:∀x∈b::os,a≤x:=fun x hx=>by
     rcases List.mem_cons.1 hx with rfl | hx
     ·
      exact hab
     ·
      have:=ho.1 x hx;omega
    obtain⟨h1,h2,h3⟩:=pr k is (b::os) (d+1) (by simp only[List.length_cons];omega) hi.2 ho (CQ hf hbs hi.1) (by simp only[List.length_cons];omega);rw[z8 hab]
    by_cases hd:d=0
    ·
     subst hd;rw[if_pos rfl];have hfa:=hf a
     rw[fC (l:=a::is) (n:=a-1) (fun x hx=>by
      rcases List.mem_cons.1 hx with rfl | hx
      ·
       omega
      ·
       have:=hi.1 x hx;omega)]at hfa
     have hgt:∀x∈b::os,a+1≤x:=fun x hx=>by
      have hz:qm (b::os) a=0:=by omega
      unfold qm at hz;rw[List.countP_eq_zero]at hz;have:=hz x hx;simp at this;omega
     refine⟨⟨fun x hx=>?_,h1⟩,fun m hm hm2 x hx=>?_,fun n=>?_⟩
     ·
      -- the first place behind a is one out,or none
      rcases is with _ | ⟨c,is⟩
      ·
       have:=h2 (a+1) (fun y hy=>by cases hy) hgt x hx;omega
      ·
       -- ahead of the next place the depth stays oW 0
       by_cases hc:a<x
       ·
        exact hc
       ·
        exfalso;have hx1:=h2 a hi.1 hbs x hx;have hxa:x=a:=by omega
        subst hxa
        have hp:par (fD (c::is) (b::os) (0+1)) x=true:=by
         have:∀ {l:List Int},inc l→x∈l→(∀y∈l,x≤y)→par l x=true:=by
          intro l hl hxl hle;cases l with
          | nil=>cases hxl
          | cons y l =>
            have hy:=hle y (by simp);rcases List.mem_cons.1 hxl with rfl | hxl
            ·
             rw[par,eD hl.1];simp
            ·
             have:=hl.1 x hxl;omega
         exact this h1 hx (h2 x hi.1 hbs)
        rw[h3]at hp;have hz:qm (b::os) x=0:=fC fun y hy=>by have:=hgt y hy;omega
        rw[hz]at hp;simp at hp
     ·
      simp only[List.cons_append,List.nil_append,List.mem_cons]at hx;rcases hx with rfl | hx
      ·
       exact hm x (by simp)
      ·
       exact h2 m (fun y hy=>hm y (by simp[hy])) hm2 x hx
     ·
      rw[List.cons_append,List.nil_append,par,h3,iX a]
      by_cases hn:a≤n
      ·
       simp[hn];omega
      ·
       have hz:qm (b::os) n=0:=fC fun y hy=>by have:=hgt y hy;omega
       have hz2:qm is n=0:=fC fun y hy=>by have:=hi.1 y hy;omega
       simp[hn,hz,hz2]
    ·
     rw[if_neg hd,List.nil_append];refine⟨h1,fun m hm hm2 x hx=>h2 m (fun y hy=>hm y (by simp[hy])) hm2 x hx,fun n=>?_⟩;rw[h3,iX a,decide_eq_true (show 0<d+1 by omega),decide_eq_true (show 0<d by omega)]
     by_cases hn:a≤n
     ·
      rw[if_pos hn];congr 1;rw[decide_eq_decide];omega
     ·
      have hz:qm (b::os) n=0:=fC fun y hy=>by have:=hbs y hy;omega
      rw[if_neg hn,hz,decide_eq_true (by omega),decide_eq_true (by omega)]
   ·
    have hia:∀x∈a::is,b<x:=fun x hx=>by
     rcases List.mem_cons.1 hx with rfl | hx
     ·
      omega
     ·
      have:=hi.1 x hx;omega
    obtain⟨hd,hf2⟩:=vi hf hia ho.1;obtain⟨h1,h2,h3⟩:=pr k (a::is) os (d-1) (by simp only[List.length_cons];omega) hi ho.2 hf2 (by simp only[List.length_cons];omega);rw[w3 hab]
    by_cases gy:d=1
    ·
     subst gy;rw[if_pos rfl];refine⟨⟨fun x hx=>?_,h1⟩,fun m hm hm2 x hx=>?_,fun n=>?_⟩
     ·
      -- what comes next is a place in
      have hx1:=h2 b (fun y hy=>by have:=hia y hy;omega) ho.1 x hx
      by_cases hc:b<x
      ·
       exact hc
      ·
       exfalso;have hxa:x=b:=by omega
       subst hxa
       have hp:par (fD (a::is) os (1-1)) x=true:=by
        have:∀ {l:List Int},inc l→x∈l→(∀y∈l,x≤y)→par l x=true:=by
         intro l hl hxl hle;cases l with
         | nil=>cases hxl
         | cons y l =>
           have hy:=hle y (by simp);rcases List.mem_cons.1 hxl with rfl | hxl
           ·
            rw[par,eD hl.1];simp
           ·
            have:=hl.1 x hxl;omega
        exact this h1 hx (h2 x (fun y hy=>by have:=hia y hy;omega) ho.1)
       rw[h3,fC (l:=a::is) hia]at hp;simp at hp
     ·
      simp only[List.cons_append,List.nil_append,List.mem_cons]at hx;rcases hx with rfl | hx
      ·
       exact hm2 x (by simp)
      ·
       exact h2 m hm (fun y hy=>hm2 y (by simp[hy])) x hx
     ·
      rw[List.cons_append,List.nil_append,par,h3,iX b]
      by_cases hn:b≤n
      ·
       simp[hn];omega
      ·
       have hz:qm os n=0:=fC fun y hy=>by have:=ho.1 y hy;omega
       have hz2:qm (a::is) n=0:=fC fun y hy=>by have:=hia y hy;omega
       simp[hn,hz,hz2]
    ·
     rw[if_neg gy,List.nil_append];refine⟨h1,fun m hm hm2 x hx=>h2 m hm (fun y hy=>hm2 y (by simp[hy])) x hx,fun n=>?_⟩;rw[h3,iX b,decide_eq_true (show 0<d by omega),decide_eq_true (show 0<d-1 by omega)]
     by_cases hn:b≤n
     ·
      rw[if_pos hn];congr 1;rw[decide_eq_decide];omega
     ·
      have hz:qm os n=0:=fC fun y hy=>by have:=ho.1 y hy;omega
      rw[if_neg hn,hz,decide_eq_true (by omega),decide_eq_true (by omega)]
def fq (l:List bA):List bA:=l.filterMap gQ
theorem oF {l:List bA}:∀r∈fq l,1≤r.1∧r.1≤r.2∧r.2≤gJ:=fun r hr=>by
 obtain⟨s,_,h⟩:=List.mem_filterMap.1 hr;have:=nt h;exact⟨this.1,this.2.1,this.2.2.1⟩
theorem wZ (l:List bA)(n:Int):bJ (fq l) n↔1≤n∧n≤gJ∧bJ l n:=by
 constructor
 ·
  rintro ⟨r,hr,h1,h2⟩;obtain⟨s,hs,h⟩:=List.mem_filterMap.1 hr;have:=((nt h).2.2.2 n).1 ⟨h1,h2⟩;exact⟨this.1,this.2.1,s,hs,this.2.2⟩
 ·
  rintro ⟨h1,h2,s,hs,h3,h4⟩;cases h:gQ s with
  | none=>exact absurd ⟨h1,h2,h3,h4⟩ (tJ h n)
  | some c =>
    have:=((nt h).2.2.2 n).2 ⟨h1,h2,h3,h4⟩;exact⟨c,List.mem_filterMap.2 ⟨s,hs,h⟩,this.1,this.2⟩
theorem uf:∀ {l:List bA},(∀r∈l,r.1≤r.2)→∀n,qm (l.map fun r=>r.2+1) n≤qm (l.map Prod.fst) (n-1)∧(qm (l.map fun r=>r.2+1) n<qm (l.map Prod.fst) n↔bJ l n)∧qm (l.map fun r=>r.2+1) n≤qm (l.map Prod.fst) n
 | [],_,n=>by simp[qm,bJ]
 | r :: l, h, n => by
   obtain⟨h1,h2,h3⟩:=uf (l:=l) (fun s hs=>h s (by simp[hs])) n;have hr:=h r (by simp);rw[bW];simp only[List.map_cons,iX];refine⟨?_,?_,?_⟩
   ·
    split<;>split<;>omega
   ·
    by_cases ha:r.2+1≤n
    ·
     rw[if_pos ha,if_pos (by omega)];constructor
     ·
      intro h;exact .inr (h2.1 (by omega))
     ·
      rintro (h | h)
      ·
       omega
      ·
       have:=h2.2 h;omega
    ·
     rw[if_neg ha]
     by_cases hb:r.1≤n
     ·
      rw[if_pos hb];exact⟨fun _=>.inl (by omega),fun _=>by omega⟩
     ·
      rw[if_neg hb];constructor
      ·
       intro h;exact .inr (h2.1 (by omega))
      ·
       rintro (h | h)
       ·
        omega
       ·
        have:=h2.2 h;omega
   ·
    split<;>split<;>omega
theorem mE {l m:List Int}(p:l.Perm m)(n:Int):qm l n=qm m n:=p.countP_eq _
theorem Fh {l:List bA}{is os:List Int}(hi:AA is)(ho:AA os)(pi:is.Perm ((fq l).map Prod.fst))(po:os.Perm ((fq l).map fun r=>r.2+1)):fD is os 0=bI (av l):=by
 have hc:=fun n=>uf (l:=fq l) (fun r hr=>(oF r hr).2.1) n
 obtain⟨h1,_,h3⟩:=pr _ is os 0 (Nat.le_refl _) hi ho (fun n=>by rw[mE po,mE pi];have:=(hc n).1;omega) (by rw[pi.length_eq,po.length_eq];simp);refine CL h1 (eI l) fun n=>?_;rw[h3,mE po,mE pi,mS,←wZ,←(hc n).2.1];simp
def comb (f:Bool→Bool→Bool):List Int→List Int→Bool→Bool→Bool→List Int
 | [],[],_,_,_=>[]
 | a::l,[],x,y,now=>(if f (!x) y=now then [] else [a])++comb f l [] (!x) y (f (!x) y)
 | [],b::m,x,y,now=>(if f x (!y)=now then [] else [b])++comb f [] m x (!y) (f x (!y))
 | a :: l, b :: m, x, y, now =>
   if a<b then (if f (!x) y=now then [] else [a])++comb f l (b::m) (!x) y (f (!x) y)
   else if b<a then (if f x (!y)=now then [] else [b])++comb f (a::l) m x (!y) (f x (!y))
   else (if f (!x) (!y)=now then [] else [a])++comb f l m (!x) (!y) (f (!x) (!y))
termination_by l m=>l.length+m.length
theorem Fx (f:Bool→Bool→Bool)(x y now:Bool):comb f [] [] x y now=[]:=by rw[comb]
theorem rj (c:Prop)[Decidable c](a:Int)(n:Int):par (if c then [] else [a]) n=(decide (¬c) && decide (a≤n)):=by
 split<;>rename_i h<;>simp[par,h]
theorem mI (f:Bool→Bool→Bool):∀(k:Nat) (l m:List Int) (x y:Bool),l.length+m.length≤k→inc l→inc m→
 inc (comb f l m x y (f x y))∧(∀q,(∀z∈l,q≤z)→(∀z∈m,q≤z)→∀z∈comb f l m x y (f x y),q≤z)∧∀n,par (comb f l m x y (f x y)) n=(f x y ^^ f (x ^^ par l n) (y ^^ par m n))
 | k,[],[],x,y,hk,_,_=>by rw[Fx];exact⟨trivial,fun q _ _ z hz=>(by cases hz),fun n=>by simp[par]⟩
 | 0,a::l,m,x,y,hk,_,_=>by simp at hk
 | 0,[],b::m,x,y,hk,_,_=>by simp at hk
 | k + 1, a :: l, [], x, y, hk, hl, hm => by
   simp only[List.length_nil,List.length_cons]at hk;obtain⟨h1,h2,h3⟩:=mI f k l [] (!x) y (by simp only[List.length_nil];omega) hl.2 trivial;rw[comb];have hgt:=h2 (a+1) (fun z hz=>hl.1 z hz) (fun z hz=>by cases hz);refine⟨?_,fun q hq1 hq2 z hz=>?_,fun n=>?_⟩
   ·
    split
    ·
     exact h1
    ·
     exact⟨fun z hz=>hgt z hz,h1⟩
   ·
    rcases List.mem_append.1 hz with hz | hz
    ·
     split at hz
     ·
      cases hz
     ·
      simp at hz;subst hz;exact hq1 z (by simp)
    ·
     exact h2 q (fun z hz=>hq1 z (by simp[hz])) hq2 z hz
   ·
    rw[kW,h3,rj,par,par]
    by_cases hn:a≤n
    ·
     simp only[hn,decide_true];cases f (!x) y<;>cases f x y<;>simp
    ·
     rw[eD (l:=l) (fun z hz=>by have:=hl.1 z hz;omega)];simp[hn]
 | k + 1, [], b :: m, x, y, hk, hl, hm => by
   simp only[List.length_nil,List.length_cons]at hk;obtain⟨h1,h2,h3⟩:=mI f k [] m x (!y) (by simp only[List.length_nil];omega) trivial hm.2;rw[comb];have hgt:=h2 (b+1) (fun z hz=>by cases hz) (fun z hz=>hm.1 z hz);refine⟨?_,fun q hq1 hq2 z hz=>?_,fun n=>?_⟩
   ·
    split
    ·
     exact h1
    ·
     exact⟨fun z hz=>hgt z hz,h1⟩
   ·
    rcases List.mem_append.1 hz with hz | hz
    ·
     split at hz
     ·
      cases hz
     ·
      simp at hz;subst hz;exact hq2 z (by simp)
    ·
     exact h2 q hq1 (fun z hz=>hq2 z (by simp[hz])) z hz
   ·
    rw[kW,h3,rj,par,par]
    by_cases hn:b≤n
    ·
     simp only[hn,decide_true];cases f x (!y)<;>cases f x y<;>simp
    ·
     rw[eD (l:=m) (fun z hz=>by have:=hm.1 z hz;omega)];simp[hn]
 | k + 1, a :: l, b :: m, x, y, hk, hl, hm => by
   simp only[List.length_cons]at hk;rw[comb]
   by_cases hab:a<b
   ·
    rw[if_pos hab];obtain⟨h1,h2,h3⟩:=mI f k l (b::m) (!x) y (by simp only[List.length_cons];omega) hl.2 hm
    have hbm:∀z∈b::m,a+1≤z:=fun z hz=>by
     rcases List.mem_cons.1 hz with rfl | hz
     ·
      omega
     ·
      have:=hm.1 z hz;omega
    have hgt:=h2 (a+1) (fun z hz=>hl.1 z hz) hbm;refine⟨?_,fun q hq1 hq2 z hz=>?_,fun n=>?_⟩
    ·
     split
     ·
      exact h1
     ·
      exact⟨fun z hz=>hgt z hz,h1⟩
    ·
     rcases List.mem_append.1 hz with hz | hz
     ·
      split at hz
      ·
       cases hz
      ·
       simp at hz;subst hz;exact hq1 z (by simp)
     ·
      exact h2 q (fun z hz=>hq1 z (by simp[hz])) hq2 z hz
    ·
     rw[kW,h3,rj,par.eq_2 n a l]
     by_cases hn:a≤n
     ·
      simp only[hn,decide_true];cases f (!x) y<;>cases f x y<;>simp
     ·
      rw[eD (l:=l) (fun z hz=>by have:=hl.1 z hz;omega),eD (l:=b::m) (fun z hz=>by have:=hbm z hz;omega)];simp[hn]
   ·
    rw[if_neg hab]
    by_cases hba:b<a
    ·
     rw[if_pos hba];obtain⟨h1,h2,h3⟩:=mI f k (a::l) m x (!y) (by simp only[List.length_cons];omega) hl hm.2
     have hal:∀z∈a::l,b+1≤z:=fun z hz=>by
      rcases List.mem_cons.1 hz with rfl | hz
      ·
       omega
      ·
       have:=hl.1 z hz;omega
     have hgt:=h2 (b+1) hal (fun z hz=>hm.1 z hz);refine⟨?_,fun q hq1 hq2 z hz=>?_,fun n=>?_⟩
     ·
      split
      ·
       exact h1
      ·
       exact⟨fun z hz=>hgt z hz,h1⟩
     ·
      rcases List.mem_append.1 hz with hz | hz
      ·
       split at hz
       ·
        cases hz
       ·
        simp at hz;subst hz;exact hq2 z (by simp)
      ·
       exact h2 q hq1 (fun z hz=>hq2 z (by simp[hz])) z hz
     ·
      rw[kW,h3,rj,par.eq_2 n b m]
      by_cases hn:b≤n
      ·
       simp only[hn,decide_true];cases f x (!y)<;>cases f x y<;>simp
      ·
       rw[eD (l:=m) (fun z hz=>by have:=hm.1 z hz;omega),eD (l:=a::l) (fun z hz=>by have:=hal z hz;omega)];simp[hn]
    ·
     rw[if_neg hba];obtain rfl:a=b:=by omega
     obtain⟨h1,h2,h3⟩:=mI f k l m (!x) (!y) (by omega) hl.2 hm.2;have hgt:=h2 (a+1) (fun z hz=>hl.1 z hz) (fun z hz=>hm.1 z hz);refine⟨?_,fun q hq1 hq2 z hz=>?_,fun n=>?_⟩
     ·
      split
      ·
       exact h1
      ·
       exact⟨fun z hz=>hgt z hz,h1⟩
     ·
      rcases List.mem_append.1 hz with hz | hz
      ·
       split at hz
       ·
        cases hz
       ·
        simp at hz;subst hz;exact hq1 z (by simp)
      ·
       exact h2 q (fun z hz=>hq1 z (by simp[hz])) (fun z hz=>hq2 z (by simp[hz])) z hz
     ·
      rw[kW,h3,rj,par,par]
      by_cases hn:a≤n
      ·
       simp only[hn,decide_true];cases f (!x) (!y)<;>cases f x y<;>simp
      ·
       rw[eD (l:=l) (fun z hz=>by have:=hl.1 z hz;omega),eD (l:=m) (fun z hz=>by have:=hm.1 z hz;omega)];simp[hn]
theorem BP {x y:List bA}(hx:can x)(hy:can y):comb (fun a b=>a && !b) (bI x) (bI y) false false false=bI (eB x y):=by
 obtain⟨h1,_,h3⟩:=mI (fun a b=>a && !b) _ (bI x) (bI y) false false (Nat.le_refl _) (qR hx) (qR hy);refine CL h1 (kN hx hy) fun n=>?_;rw[mC hx hy,←qU hx,←qU hy];have:=h3 n;simp only[Bool.false_and,Bool.false_xor]at this;rw[show par (comb (fun a b=>a && !b) (bI x) (bI y) false false false) n=_ from this];simp
structure gC where
 rep:Int
 num:Int
structure aS where
 rep:Int
 num:Int
 cM:ByteArray
 qy:Int
structure bK where
 cM:ByteArray
 bx:aI
structure iR where
 jn:List aS
 bx:aI
 mw:List bK
instance:DecidableEq aL:=fun a b=>decidable_of_iff (a.rep=b.rep∧a.lo=b.lo∧a.hi=b.hi) (by cases a;cases b;simp)
instance:DecidableEq gC:=fun a b=>decidable_of_iff (a.rep=b.rep∧a.num=b.num) (by cases a;cases b;simp)
instance:DecidableEq aI:=fun a b=>decidable_of_iff (a.vec=b.vec∧a.ab=b.ab) (by cases a;cases b;simp)
instance:DecidableEq aS:=fun a b=>decidable_of_iff (a.rep=b.rep∧a.num=b.num∧a.cM=b.cM∧a.qy=b.qy) (by cases a;cases b;simp)
instance:DecidableEq bK:=fun a b=>decidable_of_iff (a.cM=b.cM∧a.bx=b.bx) (by cases a;cases b;simp)
instance:DecidableEq iR:=fun a b=>decidable_of_iff (a.jn=b.jn∧a.bx=b.bx∧a.mw=b.mw) (by cases a;cases b;simp)
def xF (c:UInt8):Bool:=decide (65≤(c.toNat:Int)) && decide ((c.toNat:Int)≤90)
def yA (c:UInt8):Bool:=decide (48≤(c.toNat:Int)) && decide ((c.toNat:Int)≤57)
def tK (c:UInt8):Bool:=decide ((c.toNat:Int)=45) || decide ((c.toNat:Int)=46)
def rU (l:List UInt8)(i:Nat):Bool:=match l[i]? with
 | none=>false
 | some c=>xF c || yA c || (tK c && decide (i≠0) && decide (i+1≠l.length) && match l[i-1]? with | none=>false | some p=>!tK p)
def pW (l:List UInt8):Nat×Int:=
 if l.length=0 then (0,20) else if 24<l.length then (0,21) else match (List.range l.length).find? fun i=>!rU l i with
  | some i=>(i,22)
  | none=>(0,0)
def Ck (l:List UInt8):Bool:=decide ((pW l).2=0)
theorem xw {n:Nat}{p:Nat→Bool}(h:∀j,j<n→p j=false):(List.range n).find? p=none:=by
 rw[List.find?_eq_none];intro j hj;simp[h j (List.mem_range.1 hj)]
theorem Bg:∀ {n:Nat} {p:Nat→Bool} {i:Nat},i<n→p i=true→(∀j,j<i→p j=false)→(List.range n).find? p=some i:=by
 intro n p i hi hp h;have e:List.range n=List.range i++(List.range (n-i)).map (i+·):=by rw[←List.range_add];congr 1;omega
 rw[e,List.find?_append,xw h];obtain⟨k,hk⟩:∃k,n-i=k+1:=⟨n-i-1,by omega⟩;rw[hk,List.range_succ_eq_map];simp[hp]
theorem ot {l:List UInt8}{i:Nat}(h0:l.length≠0)(h1:l.length≤24)(hi:i<l.length)(hp:rU l i=false)(h:∀j,j<i→rU l j=true):pW l=(i,22):=by
 unfold pW;rw[if_neg h0,if_neg (by omega),Bg hi (by simp[hp]) (fun j hj=>by simp[h j hj])]
theorem BX {l:List UInt8}(h0:l.length≠0)(h1:l.length≤24)(h:∀j,j<l.length→rU l j=true):pW l=(0,0):=by
 unfold pW;rw[if_neg h0,if_neg (by omega),xw (fun j hj=>by simp[h j hj])]
def kJ {α:Type}(f:Option α→α→Bool):Option α→List α→Bool
 | _,[]=>true
 | p,x::l=>f p x && kJ f (some x) l
def ahead {α:Type}(p:Option α)(l:List α)(i:Nat):Option α:=if i=0 then p else l[i-1]?
theorem dN {α:Type}{f:Option α→α→Bool}:∀ {l:List α} {p:Option α} {i:Nat} {x:α},l[i]?=some x→f (ahead p l i) x=false→kJ f p l=false
 | y::l,p,0,x,hx,h=>by simp at hx;subst hx;simp[ahead]at h;simp[kJ,h]
 | y :: l, p, i + 1, x, hx, h => by
   have hx':l[i]?=some x:=by simpa using hx
   have:f (ahead (some y) l i) x=false:=by
    have e:ahead p (y::l) (i+1)=ahead (some y) l i:=by
     unfold ahead;simp;cases i with
     | zero=>simp
     | succ i=>simp
    rw[←e];exact h
   rw[kJ,dN hx' this];simp
theorem di {α:Type}{f:Option α→α→Bool}:∀ {l:List α} {p:Option α},(∀i x,l[i]?=some x→f (ahead p l i) x=true)→kJ f p l=true
 | [],_,_=>rfl
 | y :: l, p, h => by
   have h0:=h 0 y rfl;simp[ahead]at h0;rw[kJ,h0,di (p:=some y) fun i x hx=>?_];· rfl
   have:=h (i+1) x (by simpa using hx)
   have e:ahead p (y::l) (i+1)=ahead (some y) l i:=by
    unfold ahead;simp;cases i with
    | zero=>simp
    | succ i=>simp
   rw[←e];exact this
theorem lV {α:Type}{f:Option α→α→Bool}:∀ {l:List α} {p:Option α},kJ f p l=true→∀i x,l[i]?=some x→f (ahead p l i) x=true
 | [],_,_,i,x,hx=>by simp at hx
 | y :: l, p, h, i, x, hx => by
   rw[kJ,Bool.and_eq_true]at h;cases i with
   | zero=>simp at hx;subst hx;simpa[ahead]using h.1
   | succ i =>
     have e:ahead p (y::l) (i+1)=ahead (some y) l i:=by
      unfold ahead;simp;cases i with
      | zero=>simp
      | succ i=>simp
     rw[e];exact lV h.2 i x (by simpa using hx)
def dK (r n:Int):Bool:=decide (0≤r) && decide (r<16) && decide (1≤n) && decide (n≤1000000000)
def lE (s:ByteArray):Bool:=Ck s.data.toList
def mU (e:aS):Int:=if e.rep<0∨16≤e.rep then 3 else if e.num<1∨1000000000<e.num then 2 else if lE e.cM=false then 5 else if e.qy<1∨1000000<e.qy then 6 else 0
def fM (e:aS):Bool:=dK e.rep e.num && lE e.cM && decide (1≤e.qy) && decide (e.qy≤1000000)
theorem jR (e:aS):decide (mU e=0)=fM e:=by
 unfold mU fM dK;rw[Bool.eq_iff_iff];simp only[decide_eq_true_eq,Bool.and_eq_true];constructor
 ·
  intro h
  by_cases h1:e.rep<0∨16≤e.rep
  ·
   rw[if_pos h1]at h;omega
  ·
   rw[if_neg h1]at h
   by_cases h2:e.num<1∨1000000000<e.num
   ·
    rw[if_pos h2]at h;omega
   ·
    rw[if_neg h2]at h
    by_cases h3:lE e.cM=false
    ·
     rw[if_pos h3]at h;omega
    ·
     rw[if_neg h3]at h
     by_cases h4:e.qy<1∨1000000<e.qy
     ·
      rw[if_pos h4]at h;omega
     ·
      have:lE e.cM=true:=by simpa using h3
      refine⟨⟨⟨⟨⟨⟨?_,?_⟩,?_⟩,?_⟩,this⟩,?_⟩,?_⟩<;>omega
 ·
  rintro ⟨⟨⟨⟨⟨⟨a,b⟩,c⟩,d⟩,s⟩,q⟩,r⟩;rw[if_neg (by omega),if_neg (by omega),if_neg (by simp[s]),if_neg (by omega)]
def nj (a b:aS):Bool:=decide (a.rep<b.rep) || (decide (a.rep=b.rep) && decide (a.num<b.num))
def eY (p:Option aS)(e:aS):Bool:=fM e && match p with | none=>true | some q=>nj q e
def bP (l:List aS):Bool:=kJ eY none l
def bg (p:aI):Bool:=decide (gS p=p)
def BT (p:aI):Int:=((List.range 16).map fun r=>c4 (aP p r)).sum
def eO (p:aI):Bool:=decide (BT p=0)
def kC (c:List aL)(r n:Int):Bool:=c.any fun s=>decide (s.rep=r) && decide (s.lo≤n) && decide (n≤s.hi)
def iy (v:List Int)(r n:Int):Bool:=match v[r.toNat]? with | some m=>decide (n≤m) | none=>false
def hasB (p:aI)(r n:Int):Bool:=dK r n && (iy p.vec r n || kC p.ab r n)
theorem uK {c:List aL}{r:Nat}{n:Int}:bJ (bR c r) n↔kC c r n=true:=by
 unfold bJ bR kC;rw[List.any_eq_true];constructor
 ·
  rintro ⟨x,hx,h1,h2⟩;obtain⟨s,hs,h⟩:=List.mem_filterMap.1 hx
  split at h
  ·
   rename_i hr;cases h;exact⟨s,hs,by simp[hr,h1,h2]⟩
  ·
   cases h
 ·
  rintro ⟨s,hs,h⟩;simp only[Bool.and_eq_true,decide_eq_true_eq]at h;exact⟨(s.lo,s.hi),List.mem_filterMap.2 ⟨s,hs,by rw[if_pos h.1.1]⟩,h.1.2,h.2⟩
theorem jb {p:aI}{r n:Int}:hasB p r n=true↔x8 p r n:=by
 unfold hasB x8 dK;rw[qi];simp only[Bool.and_eq_true,decide_eq_true_eq,Bool.or_eq_true,dM];constructor
 ·
  rintro ⟨⟨⟨⟨h1,h2⟩,h3⟩,h4⟩,h5⟩;refine⟨h1,h2,h3,h4,?_⟩;unfold cR;rw[dR];rcases h5 with h5 | h5
  ·
   left
   unfold iy at h5;cases hv:p.vec[r.toNat]? with
   | none=>rw[hv]at h5;simp at h5
   | some m=>rw[hv]at h5;simp at h5;simp[bJ];omega
  ·
   right;rw[uK,Int.toNat_of_nonneg h1];exact h5
 ·
  rintro ⟨h1,h2,h3,h4,h5⟩;refine⟨⟨⟨⟨h1,h2⟩,h3⟩,h4⟩,?_⟩;unfold cR at h5;rw[dR]at h5;rcases h5 with h5 | h5
  ·
   left
   unfold iy;cases hv:p.vec[r.toNat]? with
   | none=>rw[hv]at h5;simp[bJ]at h5
   | some m=>rw[hv]at h5;simp[bJ]at h5;simp;omega
  ·
   right;rw[uK,Int.toNat_of_nonneg h1]at h5;exact h5
def ck (a b:aI):Bool:=(List.range 16).all fun r=>decide (eB (aP a r) (aP b r)=[])
theorem Ad {a b:aI}:ck a b=true↔Cd a b:=by
 rw[tZ];unfold ck;rw[List.all_eq_true];constructor
 ·
  intro h r hr;simpa using h r (List.mem_range.2 hr)
 ·
  intro h r hr;simpa using h r (List.mem_range.1 hr)
def mg (l:List gC):aI:=gS ⟨[],l.map fun d=>⟨d.rep,d.num,d.num⟩⟩
def aS.dot (e:aS):gC:=⟨e.rep,e.num⟩
def gf (x y:Int):Int:=if x<y then -1 else if y<x then 1 else 0
def cx:List Int→Int
 | []=>0
 | a::l=>if a=0 then cx l else a
def iY (s t:aL):Int:=cx [gf s.rep t.rep,gf s.lo t.lo,gf s.hi t.hi]
def dn:List aL→List aL→Int
 | [],[]=>0
 | [],_::_=>-1
 | _::_,[]=>1
 | s::l,t::m=>if iY s t=0 then dn l m else iY s t
def ay (v:List Int)(r:Nat):Int:=match v[r]? with | some x=>x | none=>0
def si (a b:aI):Int:=cx ((List.range 16).map (fun r=>gf (ay a.vec r) (ay b.vec r))++[dn a.ab b.ab])
def qv (a b:aI):Int:=si (gS a) (gS b)
theorem eM {x y:Int}:gf x y=0↔x=y:=by unfold gf;split<;>(try split)<;>omega
theorem cg (l m:List Int):cx (l++m)=if cx l=0 then cx m else cx l:=by
 induction l with
 | nil=>simp[cx]
 | cons a l ih =>
   rw[List.cons_append,cx,cx,ih]
   by_cases ha:a=0
   ·
    rw[if_pos ha,if_pos ha]
   ·
    rw[if_neg ha,if_neg ha,if_neg ha]
def gP (r:bA):List Value:=[.int .i64 r.1,.int .i64 r.2]
def gH (s:aL):List Value:=[.int .i64 s.rep,.int .i64 s.lo,.int .i64 s.hi]
def sA (d:gC):List Value:=[.int .i64 d.rep,.int .i64 d.num]
def lG (e:aS):List Value:=[.int .i64 e.rep,.int .i64 e.num,.string e.cM,.int .i64 e.qy]
structure PL where
 va:Option Addr
 vc:Nat
 ca:Option Addr
 cc:Nat
 d:aI
abbrev kY (w:World)(A:Option Addr)(c:Nat)(xs:List Int):Prop:=Rd w 1 (.slice A xs.length c) xs.length (xs.map (Value.int .i64))
abbrev jk (w:World)(A:Option Addr)(c:Nat)(xs:List aL):Prop:=Rd w 3 (.slice A xs.length c) xs.length (xs.flatMap gH)
abbrev ku (w:World)(A:Option Addr)(c:Nat)(xs:List bA):Prop:=Rd w 2 (.slice A xs.length c) xs.length (xs.flatMap gP)
abbrev iz (w:World)(A:Option Addr)(c:Nat)(xs:List aS):Prop:=Rd w 4 (.slice A xs.length c) xs.length (xs.flatMap lG)
abbrev GY (w:World)(A:Option Addr)(c:Nat)(xs:List gC):Prop:=Rd w 2 (.slice A xs.length c) xs.length (xs.flatMap sA)
abbrev cq (e:Nat)(A:Option Addr)(c:Nat)(xs:List Int):As:=row e 1 (.slice A xs.length c) xs.length (xs.map (Value.int .i64))
abbrev bp (e:Nat)(A:Option Addr)(c:Nat)(xs:List aL):As:=row e 3 (.slice A xs.length c) xs.length (xs.flatMap gH)
abbrev fe (e:Nat)(A:Option Addr)(c:Nat)(xs:List bA):As:=row e 2 (.slice A xs.length c) xs.length (xs.flatMap gP)
abbrev fJ (e:Nat)(A:Option Addr)(c:Nat)(xs:List aS):As:=row e 4 (.slice A xs.length c) xs.length (xs.flatMap lG)
abbrev II (e:Nat)(A:Option Addr)(c:Nat)(xs:List gC):As:=row e 2 (.slice A xs.length c) xs.length (xs.flatMap sA)
theorem oy {α:Type}{enc:α→List Value}{k:Nat}(hk:∀x,(enc x).length=k):∀xs:List α,(xs.flatMap enc).length=xs.length * k
 | []=>by simp
 | x::xs=>by simp[oy hk xs,hk,Nat.add_mul,Nat.add_comm]
theorem jI {α:Type}{enc:α→List Value}{k:Nat}(hk:∀x,(enc x).length=k):∀ {xs:List α} {i:Nat} {x:α},xs[i]?=some x→∀j u,(enc x)[j]?=some u→(xs.flatMap enc)[i * k+j]?=some u
 | [],i,x,h,_,_,_=>by simp at h
 | y :: xs, 0, x, h, j, u, hj => by
   simp at h;subst h;have:=(List.getElem?_eq_some_iff.1 hj).1;rw[List.flatMap_cons,List.getElem?_append_left (by omega)];simpa using hj
 | y :: xs, i + 1, x, h, j, u, hj => by
   rw[List.flatMap_cons,List.getElem?_append_right (by rw[hk];rw[Nat.add_mul];omega),hk,show (i+1) * k+j-k=i * k+j from by rw[Nat.add_mul];omega];exact jI hk (by simpa using h) j u hj
theorem uI (r:bA):(gP r).length=2:=rfl
theorem Ey (r:aL):(gH r).length=3:=rfl
theorem uG (r:gC):(sA r).length=2:=rfl
theorem Fc (r:aS):(lG r).length=4:=rfl
theorem eX {xs:List bA}{i:Nat}{x:bA}(h:xs[i]?=some x):∀j u,(gP x)[j]?=some u→(xs.flatMap gP)[i * 2+j]?=some u:=jI uI h
theorem dQ {xs:List aL}{i:Nat}{x:aL}(h:xs[i]?=some x):∀j u,(gH x)[j]?=some u→(xs.flatMap gH)[i * 3+j]?=some u:=jI Ey h
theorem tC {xs:List gC}{i:Nat}{x:gC}(h:xs[i]?=some x):∀j u,(sA x)[j]?=some u→(xs.flatMap sA)[i * 2+j]?=some u:=jI uG h
theorem de {xs:List aS}{i:Nat}{x:aS}(h:xs[i]?=some x):∀j u,(lG x)[j]?=some u→(xs.flatMap lG)[i * 4+j]?=some u:=jI Fc h
end Go.Proofs.YtkjabaihpkbfhaaGreat.Wk
