/- Texts of our own that a row leans on, put together. No condition of their own. -/
import Derived.WalkKit
import Derived.KernelRfl
import Derived.Deep.Draws
import Derived.Deep.AppendSrc
import Derived.Deep.Upon
import Derived.Deep.LoopGhost
import Derived.OrdersHeld
import Derived.Deep.Quiet
import Derived.StillTail
import Derived.SizedLaws
import Derived.ChangeSlices
import Derived.WideShapes
import Derived.Laws.BytesArg
import Derived.Lib.ConvBytes
import Derived.LoopN
import Derived.Laws.StructEq
import Derived.Orders
import Derived.Lib.Walk
import Derived.Test.YtkjabaihpkbfhaaGreatProg
import Derived.Recover
import Derived.RangeFuncNested
import Derived.RangeFuncCalls
import Derived.RangeFuncLeaves
import Derived.OwnWalkIn
import Derived.Shelf.SlLaysF0
import Derived.Shelf.SlSortCmp.NoneTotal
import Derived.Shelf.SlSortCmp.WholeK
import Derived.Lib.Bytealg
import Derived.Laws.Strings
set_option linter.unusedVariables false
set_option linter.unusedSimpArgs false
set_option maxRecDepth 100000
set_option maxHeartbeats 2000000
namespace Go.Proofs.YtkjabaihpkbfhaaGreat.K
open Go Go.RowKit
abbrev Hp:=Nat→Option Obj
abbrev As:=Hp→Prop
def Sub (h k:Hp):Prop:=∀b o,h b=some o→k b=some o
def iT (h k:Hp):Prop:=∀b,h b=none∨k b=none
theorem Sub.refl (h:Hp):Sub h h:=fun _ _ e=>e
theorem Sub.trans {h k l:Hp}(a:Sub h k)(b:Sub k l):Sub h l:=fun _ _ e=>b _ _ (a _ _ e)
theorem iT.symm {h k:Hp}(a:iT h k):iT k h:=fun b=>(a b).symm
theorem iT.sub {h k h' k':Hp}(a:iT h k)(s:Sub h' h)(t:Sub k' k):iT h' k':=fun b=>by
 rcases a b with e | e
 ·
  left;cases e':h' b with
  | none=>rfl
  | some o=>rw[s b o e']at e;cases e
 ·
  right;cases e':k' b with
  | none=>rfl
  | some o=>rw[t b o e']at e;cases e
def holds:List As→Hp→Prop
 | [],_=>True
 | A::L,h=>∃h1 h2,iT h1 h2∧Sub h1 h∧Sub h2 h∧A h1∧holds L h2
theorem holds.up:∀ {L:List As} {h k:Hp},holds L h→Sub h k→holds L k
 | [],_,_,_,_=>trivial
 | _::_,_,_,⟨h1,h2,a,s1,s2,x,y⟩,s=>⟨h1,h2,a,s1.trans s,s2.trans s,x,y⟩
def Hp.join (h k:Hp):Hp:=fun b=>match h b with | some o=>some o | none=>k b
theorem jF (h k:Hp):Sub h (h.join k):=fun b o e=>by simp[Hp.join,e]
theorem im {h k:Hp}(a:iT h k):Sub k (h.join k):=fun b o e=>by
 rcases a b with e' | e'
 ·
  simp[Hp.join,e',e]
 ·
  rw[e]at e';cases e'
theorem jT {h k l:Hp}(s:Sub h l)(t:Sub k l):Sub (h.join k) l:=fun b o e=>by
 unfold Hp.join at e
 split at e
 ·
  rename_i o' e';cases e;exact s _ _ e'
 ·
  exact t _ _ e
theorem jS {h k l:Hp}(a:iT h l)(b:iT k l):iT (h.join k) l:=fun x=>by
 rcases a x with e | e
 ·
  rcases b x with e' | e'
  ·
   left;simp[Hp.join,e,e']
  ·
   exact .inr e'
 ·
  exact .inr e
theorem holds.swap {A B:As}{L:List As}{h:Hp}:holds (A::B::L) h→holds (B::A::L) h
 | ⟨h1, h2, a, s1, s2, x, g1, g2, b, t1, t2, y, z⟩ =>
   ⟨g1,h1.join g2,(jS (a.sub (Sub.refl _) t1) b.symm).symm,t1.trans s2,jT s1 (t2.trans s2),y,
    h1,g2,a.sub (Sub.refl _) t2,jF _ _,im (a.sub (Sub.refl _) t2),x,z⟩
theorem holds.cons {A:As}{L L':List As}(f:∀h,holds L h→holds L' h){h:Hp}:holds (A::L) h→holds (A::L') h
 | ⟨h1,h2,a,s1,s2,x,y⟩=>⟨h1,h2,a,s1,s2,x,f _ y⟩
theorem holds.tail {A:As}{L:List As}{h:Hp}:holds (A::L) h→holds L h
 | ⟨_,_,_,_,s2,_,y⟩=>y.up s2
theorem holds.perm {L L':List As}(p:L.Perm L'):∀h,holds L h→holds L' h:=by
 induction p with
 | nil=>exact fun _ x=>x
 | cons A _ ih=>exact fun _ x=>x.cons ih
 | swap A B L=>exact fun _ x=>x.swap
 | trans _ _ ih1 ih2=>exact fun h x=>ih2 h (ih1 h x)
structure Sat (W w:World)(L:List As):Prop where
 below:Below W.heap.size W w
 own:∃h:Hp,holds L h∧∀b o,h b=some o→W.heap.size≤b∧w.heap[b]?=some o
def star (A B:As):As:=fun h=>∃h1 h2,iT h1 h2∧Sub h1 h∧Sub h2 h∧A h1∧B h2
def aS (b:Nat)(o:Obj):As:=fun h=>h b=some o
def bR:List As→As:=fun L h=>holds L h
section
variable {W w:World} {A B C D E G:As} {L:List As}
theorem Sat.start (w:World):Sat w w []:=⟨Below.refl _ _,fun _=>none,trivial,fun _ _ e=>by cases e⟩
theorem Sat.perm {L':List As}(s:Sat W w L)(p:L.Perm L'):Sat W w L':=
 ⟨s.below,let ⟨h,x,y⟩:=s.own;⟨h,holds.perm p h x,y⟩⟩
theorem Sat.imp {A':As}(s:Sat W w (A::L))(f:∀h,A h→A' h):Sat W w (A'::L):=
 ⟨s.below,let ⟨h,⟨h1,h2,a,s1,s2,x,y⟩,z⟩:=s.own;⟨h,⟨h1,h2,a,s1,s2,f _ x,y⟩,z⟩⟩
theorem Sat.drop (s:Sat W w (A::L)):Sat W w L:=⟨s.below,let ⟨h,x,z⟩:=s.own;⟨h,x.tail,z⟩⟩
theorem Sat.u6 (s:Sat W w (A::B::L)):Sat W w (B::A::L):=s.perm (.swap ..)
theorem Sat.open_ (s:Sat W w (star A B::L)):Sat W w (A::B::L):=by
 obtain⟨bl,h,⟨h1,h2,a,s1,s2,⟨g1,g2,b,t1,t2,x,y⟩,z⟩,t⟩:=s;refine⟨bl,h,⟨g1,g2.join h2,(jS b.symm (a.symm.sub (Sub.refl _) t1)).symm,t1.trans s1,jT (t2.trans s1) s2,x,g2,h2,a.sub t2 (Sub.refl _),jF _ _,im (a.sub t2 (Sub.refl _)),y,z⟩,t⟩
theorem Sat.shut (s:Sat W w (A::B::L)):Sat W w (star A B::L):=by
 obtain⟨bl,h,⟨h1,h2,a,s1,s2,x,g1,g2,b,t1,t2,y,z⟩,t⟩:=s
 exact⟨bl,h,⟨h1.join g1,g2,jS (a.sub (Sub.refl _) t2) b,jT s1 (t1.trans s2),t2.trans s2,
  ⟨h1,g1,a.sub (Sub.refl _) t1,jF _ _,im (a.sub (Sub.refl _) t1),x,y⟩,z⟩,t⟩
theorem Sat.block {b:Nat}{o:Obj}(s:Sat W w (aS b o::L)):w.heap[b]?=some o∧W.heap.size≤b:=by
 obtain⟨_,h,⟨h1,h2,a,s1,s2,x,z⟩,t⟩:=s;have:=t b o (s1 _ _ x);exact⟨this.2,this.1⟩
theorem Sat.lt {b:Nat}{o:Obj}(s:Sat W w (aS b o::L)):b<w.heap.size:=by
 obtain⟨h,_⟩:=s.block;exact (Array.getElem?_eq_some_iff.1 h).1
theorem Sat.pa {b j:Nat}{cs:Array Value}{t:TypeId}{fr:Nat×Nat}{v:Value}(s:Sat W w (aS b (.cells cs t fr)::L))(h:cs[j]?=some v):w.cell? ⟨b,j,none⟩=some v:=by
 simp[World.cell?,s.block.1,h]
def nth:List Value→Nat→Option Value
 | [],_=>none
 | v::_,0=>some v
 | _::l,j+1=>nth l j
theorem ln:∀(l:List Value) (j:Nat),nth l j=l[j]?
 | [],_=>rfl
 | _::_,0=>rfl
 | _::l,j+1=>by simpa[nth]using ln l j
theorem Sat.cell {b j:Nat}{cs:Array Value}{t:TypeId}{fr:Nat×Nat}{v:Value}(s:Sat W w (aS b (.cells cs t fr)::L))(h:nth cs.toList j=some v):w.cell? ⟨b,j,none⟩=some v:=
 s.pa (by rw[ln]at h;simpa using h)
theorem Sat.free {b j:Nat}{cs:Array Value}{t:TypeId}(s:Sat W w (aS b (.cells cs t (0,0))::L)):w.frozen? ⟨b,j,none⟩=false:=by
 simp[World.frozen?,s.block.1]
theorem Sat.move {w':World}(s:Sat W w L)(hb:Below W.heap.size w w')(hh:∀b o,W.heap.size≤b→w.heap[b]?=some o→w'.heap[b]?=some o):Sat W w' L:=
 ⟨s.below.trans hb,let ⟨h,x,y⟩:=s.own;⟨h,x,fun b o e=>⟨(y b o e).1,hh _ _ (y b o e).1 (y b o e).2⟩⟩⟩
theorem Sat.drewN (s:Sat W w L)(n:Nat):Sat W (w.drewN n) L:=
 s.move ⟨rfl,rfl,rfl,Nat.le_refl _,fun _ _=>rfl⟩ fun _ _ _ e=>e
theorem Sat.drew (s:Sat W w L):Sat W w.drew L:=s.drewN 1
theorem Sat.write {b:Nat}{o o':Obj}{w':World}(s:Sat W w (aS b o::L))(hb:Below W.heap.size w w')(hn:w'.heap[b]?=some o')(ho:∀k,k≠b→w'.heap[k]?=w.heap[k]?):Sat W w' (aS b o'::L):=by
 obtain⟨bl,h,⟨h1,h2,a,s1,s2,x,z⟩,t⟩:=s;refine⟨bl.trans hb,fun k=>if k=b then some o' else h2 k,⟨fun k=>if k=b then some o' else none,h2,fun k=>?_,fun k u e=>?_,fun k u e=>?_,?_,z⟩,fun k u e=>?_⟩
 ·
  by_cases hk:k=b
  ·
   subst hk;right;rcases a k with e | e
   ·
    rw[show h1 k=some o from x]at e;cases e
   ·
    exact e
  ·
   simp[hk]
 ·
  by_cases hk:k=b
  ·
   subst hk;simpa using e
  ·
   simp[hk]at e
 ·
  by_cases hk:k=b
  ·
   subst hk;rcases a k with e' | e'
   ·
    rw[show h1 k=some o from x]at e';cases e'
   ·
    rw[e']at e;cases e
  ·
   simpa[hk]using e
 ·
  simp[aS]
 ·
  by_cases hk:k=b
  ·
   subst hk;simp at e;subst e;exact⟨(t k o (s1 _ _ x)).1,hn⟩
  ·
   simp[hk]at e;obtain⟨p,q⟩:=t k u (s2 _ _ e);exact⟨p,by rw[ho k hk];exact q⟩
theorem Sat.store {b j:Nat}{cs:Array Value}{t:TypeId}{fr:Nat×Nat}(s:Sat W w (aS b (.cells cs t fr)::L))(v:Value):Sat W (w.setCell ⟨b,j,none⟩ v) (aS b (.cells (cs.setIfInBounds j v) t fr)::L):=by
 have hlt:=s.lt;obtain⟨hb,hB⟩:=s.block;refine s.write ((Below.refl _ _).setCell (p:=⟨b,j,none⟩) hB v) ?_ fun k hk=>Below.heap_setCell _ _ _ _ hk
 simp only[World.setCell,Array.getElem?_modify,if_true,hb];simp
theorem Sat.alloc (s:Sat W w L)(o:Obj):Sat W (w.alloc o) (aS w.heap.size o::L):=by
 obtain⟨bl,h,x,t⟩:=s
 have hfresh:h w.heap.size=none:=by
  cases e:h w.heap.size with
  | none=>rfl
  | some u=>have:=(t _ _ e).2;rw[Array.getElem?_eq_none (Nat.le_refl _)]at this;cases this
 refine⟨bl.alloc bl.size o,fun k=>if k=w.heap.size then some o else h k,⟨fun k=>if k=w.heap.size then some o else none,h,fun k=>?_,fun k u e=>?_,fun k u e=>?_,by simp[aS],x⟩,fun k u e=>?_⟩
 ·
  by_cases hk:k=w.heap.size
  ·
   subst hk;exact .inr hfresh
  ·
   simp[hk]
 ·
  by_cases hk:k=w.heap.size
  ·
   simpa[hk]using e
  ·
   simp[hk]at e
 ·
  by_cases hk:k=w.heap.size
  ·
   subst hk;rw[hfresh]at e;cases e
  ·
   simpa[hk]using e
 ·
  by_cases hk:k=w.heap.size
  ·
   subst hk;simp at e;subst e;exact⟨bl.size,by show (w.heap.push _)[w.heap.size]?=_;simp⟩
  ·
   simp[hk]at e;obtain⟨p,q⟩:=t k u e;exact⟨p,by rw[Below.heap_alloc _ _ _ (Array.getElem?_eq_some_iff.1 q).1];exact q⟩
theorem holds.append:∀ {L M:List As} {h k:Hp},holds L h→holds M k→iT h k→holds (L++M) (h.join k)
 | [],_,h,k,_,y,a=>y.up (im a)
 | A :: L, M, h, k, ⟨h1, h2, b, s1, s2, x, z⟩, y, a =>
   ⟨h1,h2.join k,(jS b.symm (a.sub s1 (Sub.refl _)).symm).symm,s1.trans (jF _ _),jT (s2.trans (jF _ _)) (im a),x,holds.append z y (a.sub s2 (Sub.refl _))⟩
theorem Sat.ah {w':World}{M:List As}(s:Sat W w L)(t:Sat w w' M):Sat W w' (M++L):=by
 obtain⟨bl,h,x,p⟩:=s;obtain⟨bm,k,y,q⟩:=t
 have ha:iT k h:=fun b=>by
  cases e:h b with
  | none=>exact .inr rfl
  | some o =>
    left
    cases e':k b with
    | none=>rfl
    | some u =>
      have h1:=(Array.getElem?_eq_some_iff.1 (p b o e).2).1;have h2:=(q b u e').1;omega
 refine⟨⟨bm.os.trans bl.os,bm.tape.trans bl.tape,bm.output.trans bl.output,Nat.le_trans bl.size bm.size,fun i hi=>?_⟩,k.join h,holds.append y x ha,fun b o e=>?_⟩
 ·
  rw[bm.block i (Nat.lt_of_lt_of_le hi bl.size),bl.block i hi]
 ·
  unfold Hp.join at e
  split at e
  ·
   rename_i e';cases e;obtain⟨q1,q2⟩:=q b _ e';exact⟨Nat.le_trans bl.size q1,q2⟩
  ·
   obtain⟨p1,p2⟩:=p b o e;exact⟨p1,by rw[bm.block b (Array.getElem?_eq_some_iff.1 p2).1];exact p2⟩
end
end Go.Proofs.YtkjabaihpkbfhaaGreat.K
namespace Go.Proofs.YtkjabaihpkbfhaaGreat.K
open Go Go.RowKit
abbrev Env:=List (Nat×Value)
def find (i:Nat):Env→Option Value
 | []=>none
 | (j,v)::E=>bif Nat.beq i j then some v else find i E
structure Ag (a:Act)(n:Nat)(E:Env)(ds:List Deferred:=[]):Prop where
 size:a.tmps.size=n
 defers:a.defers=ds
 at_:∀i v,find i E=some v→a.tmps[i]?=some v
variable {ds:List Deferred}
def ez (E:Env):Operand→Option Value
 | .tmp t=>find t E
 | .const v=>some v
 | .global g=>some (.pointer (some ⟨g,0,none⟩))
 | .func f=>some (.func (.func f) #[] #[])
section
variable {a:Act} {n:Nat} {E:Env}
theorem Ag.ev (h:Ag a n E ds){x:Operand}{v:Value}(e:ez E x=some v):a.eval x=v:=by
 cases x with
 | tmp t=>simp[Act.eval,Array.getD_eq_getD_getElem?,h.at_ t v e]
 | const u=>simpa[ez,Act.eval]using e
 | global g=>simpa[ez,Act.eval]using e
 | func f=>simpa[ez,Act.eval]using e
theorem Ag.put (h:Ag a n E ds){d:Nat}(hd:Nat.blt d n=true)(v:Value):Ag (a.put (some d) v) n ((d,v)::E) ds:=by
 have hdn:d<n:=by simpa[Nat.blt_eq]using hd
 refine⟨by simp[Act.put,h.size],h.defers,fun i u e=>?_⟩;unfold find at e;cases hb:Nat.beq i d with
 | true =>
   rw[hb]at e;have hid:i=d:=Nat.eq_of_beq_eq_true hb;subst hid;simp only[cond_true,Option.some.injEq]at e;subst e;simp[Act.put,Array.getElem?_setIfInBounds,h.size,hdn]
 | false =>
   rw[hb]at e;have hid:¬d=i:=fun hh=>by subst hh;rw[Nat.beq_refl]at hb;cases hb
   simp only[cond_false]at e;simp[Act.put,Array.getElem?_setIfInBounds,hid,h.at_ i u e]
theorem Ag.forget (h:Ag a n E ds){E':Env}(hs:∀p∈E',find p.1 E=some p.2):Ag a n E' ds:=
 ⟨h.size,h.defers,fun i v e=>h.at_ i v (by
  have:∀(L:Env),find i L=some v→∃p∈L,p.1=i∧p.2=v:=by
   intro L
   induction L with
   | nil=>intro e;cases e
   | cons p L ih =>
     intro e;obtain⟨j,u⟩:=p;unfold find at e;cases hb:Nat.beq i j with
     | true=>rw[hb]at e;exact⟨(j,u),by simp,(Nat.eq_of_beq_eq_true hb).symm,by simpa using e⟩
     | false =>
       rw[hb]at e;obtain⟨q,hq,r⟩:=ih (by simpa using e);exact⟨q,List.mem_cons_of_mem _ hq,r⟩
  obtain⟨p,hp,rfl,rfl⟩:=this E' e;exact hs p hp)⟩
theorem Ag.enter (args:Array Value)(n:Nat)(hn:args.size≤n){E:Env}(hs:∀p∈E,args[p.1]?=some p.2) :
 Ag { tmps:=args++Array.replicate (n-args.size) undef,defers:=[] } n E:=by
 have h0:Ag { tmps:=args++Array.replicate (n-args.size) undef,defers:=[] } n ((List.range args.size).map fun i=>(i,args.getD i undef)):=by
  refine⟨by simp;omega,rfl,fun i v e=>?_⟩
  have:∀(L:List Nat),find i (L.map fun i=>(i,args.getD i undef))=some v→i∈L∧v=args.getD i undef:=by
   intro L
   induction L with
   | nil=>intro e;cases e
   | cons j L ih =>
     intro e;simp only[List.map_cons]at e;unfold find at e;cases hb:Nat.beq i j with
     | true =>
       rw[hb]at e;have:=Nat.eq_of_beq_eq_true hb;subst this;exact⟨by simp,by simpa using e.symm⟩
     | false =>
       rw[hb]at e;obtain⟨h1,h2⟩:=ih (by simpa using e);exact⟨List.mem_cons_of_mem _ h1,h2⟩
  obtain⟨h1,rfl⟩:=this _ e;have hi:i<args.size:=by simpa using h1
  simp[Array.getElem?_append,hi,Array.getD]
 refine⟨h0.size,rfl,fun i v e=>?_⟩
 have:∀(L:Env),find i L=some v→∃p∈L,p.1=i∧p.2=v:=by
  intro L
  induction L with
  | nil=>intro e;cases e
  | cons p L ih =>
    intro e;obtain⟨j,u⟩:=p;unfold find at e;cases hb:Nat.beq i j with
    | true=>rw[hb]at e;exact⟨(j,u),by simp,(Nat.eq_of_beq_eq_true hb).symm,by simpa using e⟩
    | false =>
      rw[hb]at e;obtain⟨q,hq,r⟩:=ih (by simpa using e);exact⟨q,List.mem_cons_of_mem _ hq,r⟩
 obtain⟨p,hp,rfl,rfl⟩:=this E e;have:=hs p hp;have hi:p.1<args.size:=(Array.getElem?_eq_some_iff.1 this).1;simp[Array.getElem?_append,hi];exact (Array.getElem?_eq_some_iff.1 this).2
end
section
variable {P:Program} {ops:Array Oper} {Q:Exit→Act→World→Prop} {a:Act} {n:Nat} {E:Env} {w w':World} {rest:List Oper} {o:Oper} {v:Value} {d:Nat}
theorem cn (hd:o.dst=some d)(v:Value):a.put o.dst v=a.put (some d) v:=by rw[hd]
theorem uo (hA:Ag a n E ds)(hg:o.guard=none)(hd:o.dst=some d)(hn:Nat.blt d n=true)(hr:(execOp a.eval o).run P w=.ok (.value v) w')
 (k:∀a',Ag a' n ((d,v)::E) ds→wpList P ops Q rest a' w'):wpList P ops Q (o::rest) a w:=by
 refine wpList_plain hg fun K hK=>?_;simp only[Oper.wp,hr,Oper.upon];rw[cn hd];exact hK _ _ (k _ (hA.put hn v))
theorem DE (hA:Ag a n E ds)(hg:o.guard=none)(hd:o.dst=none)(hr:(execOp a.eval o).run P w=.ok .skip w')
 (k:wpList P ops Q rest a w'):wpList P ops Q (o::rest) a w:=by
 refine wpList_plain hg fun K hK=>?_;simp only[Oper.wp,hr,Oper.upon,hd];exact hK _ _ k
theorem GA {f:FuncId}{args:Array Value}{R:Ending→World→Prop}(hA:Ag a n E ds)(hg:o.guard=none)(hd:o.dst=some d)(hn:Nat.blt d n=true)
 (hr:(execOp a.eval o).run P w=.ok (.enter f args) w) (hc:Calls P f args w R)
 (k:∀e w',R e w'→∃v,e=.returned v∧∀a',Ag a' n ((d,v)::E) ds→wpList P ops Q rest a' w'):wpList P ops Q (o::rest) a w:=by
 refine wpList_plain hg fun K hK=>?_;simp only[Oper.wp,hr,Oper.upon];refine hc.mono fun e w' h=>?_;obtain⟨v,rfl,hk⟩:=k e w' h;show K (a.put o.dst v) w';rw[cn hd];exact hK _ _ (hk _ (hA.put hn v))
theorem ar (hA:Ag a n E ds){j t:Nat}{b:Bool}(hg:o.guard=some (j,b))(ht:(ops[j]?).bind (·.dst)=some t)(hv:find t E=some (.bool b)):Region.wanted o (yielded ops a.tmps)=true:=by
 simp[Region.wanted,hg,yielded,ht,hA.at_ t _ hv]
theorem yE (hA:Ag a n E ds)(hw:Region.wanted o (yielded ops a.tmps)=true)(hd:o.dst=some d)(hn:Nat.blt d n=true)(hr:(execOp a.eval o).run P w=.ok (.value v) w')
 (k:∀a',Ag a' n ((d,v)::E) ds→wpList P ops Q rest a' w'):wpList P ops Q (o::rest) a w:=by
 refine wpList_step fun K hK=>?_;rw[if_pos hw];simp only[Oper.wp,hr,Oper.upon];rw[cn hd];exact hK _ _ (k _ (hA.put hn v))
theorem F4 {f:FuncId}{args:Array Value}{R:Ending→World→Prop}(hA:Ag a n E ds)(hw:Region.wanted o (yielded ops a.tmps)=true)(hd:o.dst=some d)(hn:Nat.blt d n=true)
 (hr:(execOp a.eval o).run P w=.ok (.enter f args) w) (hc:Calls P f args w R)
 (k:∀e w',R e w'→∃v,e=.returned v∧∀a',Ag a' n ((d,v)::E) ds→wpList P ops Q rest a' w'):wpList P ops Q (o::rest) a w:=by
 refine wpList_step fun K hK=>?_;rw[if_pos hw];simp only[Oper.wp,hr,Oper.upon];refine hc.mono fun e w' h=>?_;obtain⟨v,rfl,hk⟩:=k e w' h;show K (a.put o.dst v) w';rw[cn hd];exact hK _ _ (hk _ (hA.put hn v))
theorem GO (hA:Ag a n E ds)(hw:Region.wanted o (yielded ops a.tmps)=false)(hd:o.dst=some d)(hn:Nat.blt d n=true)
 (k:∀a',Ag a' n ((d,undef)::E) ds→wpList P ops Q rest a' w):wpList P ops Q (o::rest) a w:=by
 refine wpList_step fun K hK=>?_;rw[hw];simp only[Bool.false_eq_true,if_false];rw[cn hd];exact hK _ _ (k _ (hA.put hn undef))
end
section
variable {P:Program} {w:World} {ρ:Operand→Value} {d:Option Tmp} {ty:TypeId} {ps:String} {af:Array Edge} {g:Option (Nat×Bool)}
theorem sY {x:Operand}{v:Value}(hx:ρ x=v):(execOp ρ ⟨d,.move x,ty,ps,af,g⟩).run P w=.ok (.value v) w:=by subst hx;rfl
theorem nt {x:Operand}{v:Value}(hx:ρ x=v):(execOp ρ ⟨d,.assign x,ty,ps,af,g⟩).run P w=.ok (.value v) w:=by subst hx;rfl
theorem zy {c x y:Operand}{b:Bool}(hc:ρ c=.bool b):(execOp ρ ⟨d,.pick c x y,ty,ps,af,g⟩).run P w=.ok (.value (if b then ρ x else ρ y)) w:=by
 simp[execOp,hc,asBool,go_sem]
theorem Ad {c x y:Operand}{v:Value}(hc:ρ c=.bool true)(hx:ρ x=v):(execOp ρ ⟨d,.pick c x y,ty,ps,af,g⟩).run P w=.ok (.value v) w:=by rw[zy hc,hx];rfl
theorem qD {c x y:Operand}{v:Value}(hc:ρ c=.bool false)(hy:ρ y=v):(execOp ρ ⟨d,.pick c x y,ty,ps,af,g⟩).run P w=.ok (.value v) w:=by rw[zy hc,hy];rfl
theorem y9 {x:Operand}{vs:Array Value}{i:Nat}{v:Value}(hx:ρ x=.tuple vs)(hi:vs[i]?=some v):(execOp ρ ⟨d,.extract x i,ty,ps,af,g⟩).run P w=.ok (.value v) w:=by
 simp[execOp,hx,Instr.extract,hi,go_sem]
theorem aI {x:Operand}{p:Addr}(hx:ρ x=.pointer (some p)):(execOp ρ ⟨d,.nilCheck x,ty,ps,af,g⟩).run P w=.ok (.value (.pointer (some p))) w:=by
 simp[execOp,hx,go_sem]
def aO (P:Program)(s f:Nat):Option (Nat×Option Nat):=
 match P.underlying s with
 | some (.struct fs)=>(fs[f]?).map fun fi=>(fi.offset,(P.info? fi.type).map (·.size))
 | _=>none
theorem aa {s f b j off z:Nat}{x:Operand}(hx:ρ x=.pointer (some ⟨b,j,none⟩))(hs:aO P s f=some (off,some (z+1))) :
 (execOp ρ ⟨d,.fieldAddr s x f,ty,ps,af,g⟩).run P w=.ok (.value (.pointer (some ⟨b,j+off,none⟩))) w:=by
 unfold aO at hs
 split at hs
 ·
  rename_i fs hu;cases hf:fs[f]? with
  | none=>rw[hf]at hs;cases hs
  | some fi =>
    rw[hf]at hs;simp only[Option.map_some,Option.some.injEq,Prod.mk.injEq]at hs;obtain⟨rfl,hz⟩:=hs;obtain⟨i,hi,hz⟩:=Option.map_eq_some_iff.1 hz;have he:(⟨b,j,none⟩:Addr).add fi.offset=⟨b,j+fi.offset,none⟩:=by unfold Addr.add;split<;>simp_all
    simp[execOp,hx,Instr.fieldAt,run_underlying hu,hf,Instr.sureAddr,fieldPlace,sizeOf,typeInfo,hi,hz,he,go_sem]
 ·
  cases hs
def flat (P:Program)(t:Nat):Bool:=match P.underlying t with | some (.struct _)=>false | some (.array _ _)=>false | some _=>true | none=>false
theorem il {t:Nat}(h:flat P t=true)(w:World):(isAgg t).run P w=.ok false w:=by
 cases hu:P.underlying t with
 | none=>simp[flat,hu]at h
 | some u =>
   unfold isAgg;cases u<;>simp_all[flat,run_underlying hu,go_sem]
theorem av {t:Nat}{x:Operand}{p:Addr}{v:Value}(hx:ρ x=.pointer (some p))(ht:flat P t=true)(hc:w.cell? p=some v):(execOp ρ ⟨d,.load t x,ty,ps,af,g⟩).run P w=.ok (.value v) w:=by
 have h:=il ht w;simp[execOp,hx,Instr.loadAt,Instr.sureAddr,loadVar,h,load,Sem.run,hc,go_sem]
theorem pI {t:Nat}{x y:Operand}{p:Addr}{v u:Value}(hx:ρ x=.pointer (some p))(hy:ρ y=v)(ht:flat P t=true)(h1:(P.info? t).map (·.size)=some 1)(hv:v.oneCell'=true)(hc:w.cell? p=some u)(hf:w.frozen? p=false) :
 (execOp ρ ⟨d,.store t x y,ty,ps,af,g⟩).run P w=.ok .skip (w.setCell p v):=by
 obtain⟨i,hi,hz⟩:=Option.map_eq_some_iff.1 h1;cases v<;>simp[Value.oneCell']at hv<;>simp[execOp,hx,hy,Instr.storeAt,Instr.sureAddr,storeVar,Value.cells,sizeOf,typeInfo,hi,hz,storeCells,store,Sem.run,hc,hf,go_sem,Addr.add]
end
end Go.Proofs.YtkjabaihpkbfhaaGreat.K
namespace Go.Proofs.YtkjabaihpkbfhaaGreat.K
open Go Go.RowKit
section
variable {P:Program} {w:World} {ρ:Operand→Value} {d:Option Tmp} {ty:TypeId} {ps:String} {af:Array Edge} {g:Option (Nat×Bool)}
variable {t yt:TypeId} {x y:Operand} {a b:Int} {k:IntKind}
theorem aR {c:Bool}(hx:ρ x=.bool c):(execOp ρ ⟨d,.unOp .not t x,ty,ps,af,g⟩).run P w=.ok (.value (.bool (!c))) w:=by
 simp[execOp,hx,Op.unary,go_sem]
theorem fG {k:IntKind}{n:Int}(h0:k.min≤n)(h1:n≤k.max):k.wrap n=n:=by
 cases k<;>simp[IntKind.min,IntKind.max,IntKind.wrap,IntKind.signed,IntKind.bits]at *<;>omega
theorem wz (hx:ρ x=.int k a)(hy:ρ y=.int k b):(execOp ρ ⟨d,.binOp .add t x y yt,ty,ps,af,g⟩).run P w=.ok (.value (.int k (k.wrap (a+b)))) w:=by
 simp[execOp,hx,hy,eqGuard,binOp,Op.intArith,go_sem]
theorem C4 (hx:ρ x=.int k a)(hy:ρ y=.int k b):(execOp ρ ⟨d,.binOp .sub t x y yt,ty,ps,af,g⟩).run P w=.ok (.value (.int k (k.wrap (a-b)))) w:=by
 simp[execOp,hx,hy,eqGuard,binOp,Op.intArith,go_sem]
theorem Ds (hx:ρ x=.int k a)(hy:ρ y=.int k b):(execOp ρ ⟨d,.binOp .mul t x y yt,ty,ps,af,g⟩).run P w=.ok (.value (.int k (k.wrap (a * b)))) w:=by
 simp[execOp,hx,hy,eqGuard,binOp,Op.intArith,go_sem]
theorem CH (hx:ρ x=.int k a)(hy:ρ y=.int k b)(h0:k.min≤a+b)(h1:a+b≤k.max):(execOp ρ ⟨d,.binOp .add t x y yt,ty,ps,af,g⟩).run P w=.ok (.value (.int k (a+b))) w:=by
 rw[wz hx hy,fG h0 h1]
theorem Fc (hx:ρ x=.int k a)(hy:ρ y=.int k b)(h0:k.min≤a-b)(h1:a-b≤k.max):(execOp ρ ⟨d,.binOp .sub t x y yt,ty,ps,af,g⟩).run P w=.ok (.value (.int k (a-b))) w:=by
 rw[C4 hx hy,fG h0 h1]
theorem Fb (hx:ρ x=.int k a)(hy:ρ y=.int k b)(h0:k.min≤a * b)(h1:a * b≤k.max):(execOp ρ ⟨d,.binOp .mul t x y yt,ty,ps,af,g⟩).run P w=.ok (.value (.int k (a * b))) w:=by
 rw[Ds hx hy,fG h0 h1]
theorem aj (hx:ρ x=.int .i64 a)(hy:ρ y=.int .i64 b)(h0:-9223372036854775808≤a+b)(h1:a+b≤9223372036854775807):(execOp ρ ⟨d,.binOp .add t x y yt,ty,ps,af,g⟩).run P w=.ok (.value (.int .i64 (a+b))) w:=CH hx hy (by simpa[IntKind.min,IntKind.signed,IntKind.bits]using h0) (by simpa[IntKind.max,IntKind.signed,IntKind.bits]using h1)
theorem bJ (hx:ρ x=.int .i64 a)(hy:ρ y=.int .i64 b)(h0:-9223372036854775808≤a-b)(h1:a-b≤9223372036854775807):(execOp ρ ⟨d,.binOp .sub t x y yt,ty,ps,af,g⟩).run P w=.ok (.value (.int .i64 (a-b))) w:=Fc hx hy (by simpa[IntKind.min,IntKind.signed,IntKind.bits]using h0) (by simpa[IntKind.max,IntKind.signed,IntKind.bits]using h1)
theorem B1 (hx:ρ x=.int .i64 a)(hy:ρ y=.int .i64 b)(h0:-9223372036854775808≤a * b)(h1:a * b≤9223372036854775807):(execOp ρ ⟨d,.binOp .mul t x y yt,ty,ps,af,g⟩).run P w=.ok (.value (.int .i64 (a * b))) w:=Fb hx hy (by simpa[IntKind.min,IntKind.signed,IntKind.bits]using h0) (by simpa[IntKind.max,IntKind.signed,IntKind.bits]using h1)
theorem Fk (hx:ρ x=.int k a)(hy:ρ y=.int k b)(hb:b≠0):(execOp ρ ⟨d,.binOp .quo t x y yt,ty,ps,af,g⟩).run P w=.ok (.value (.int k (k.wrap (a.tdiv b)))) w:=by
 simp[execOp,hx,hy,eqGuard,binOp,Op.intDiv,hb,go_sem]
theorem D2 (hx:ρ x=.int k a)(hy:ρ y=.int k b)(hb:b≠0):(execOp ρ ⟨d,.binOp .rem t x y yt,ty,ps,af,g⟩).run P w=.ok (.value (.int k (a.tmod b))) w:=by
 simp[execOp,hx,hy,eqGuard,binOp,Op.intDiv,hb,go_sem]
theorem bN (hx:ρ x=.int k a)(hy:ρ y=.int k b):(execOp ρ ⟨d,.binOp .eql t x y yt,ty,ps,af,g⟩).run P w=.ok (.value (.bool (decide (a=b)))) w:=by
 simp[execOp,hx,hy,eqGuard,binOp,Op.intCmp,go_sem];rw[Bool.eq_iff_iff];simp
theorem aD (hx:ρ x=.int k a)(hy:ρ y=.int k b):(execOp ρ ⟨d,.binOp .neq t x y yt,ty,ps,af,g⟩).run P w=.ok (.value (.bool (decide (a≠b)))) w:=by
 simp[execOp,hx,hy,eqGuard,binOp,Op.intCmp,go_sem];rw[Bool.eq_iff_iff];simp
theorem aA (hx:ρ x=.int k a)(hy:ρ y=.int k b):(execOp ρ ⟨d,.binOp .lss t x y yt,ty,ps,af,g⟩).run P w=.ok (.value (.bool (decide (a<b)))) w:=by
 simp[execOp,hx,hy,eqGuard,binOp,Op.intCmp,go_sem]
theorem dU (hx:ρ x=.int k a)(hy:ρ y=.int k b):(execOp ρ ⟨d,.binOp .leq t x y yt,ty,ps,af,g⟩).run P w=.ok (.value (.bool (decide (a≤b)))) w:=by
 simp[execOp,hx,hy,eqGuard,binOp,Op.intCmp,go_sem]
theorem dW (hx:ρ x=.int k a)(hy:ρ y=.int k b):(execOp ρ ⟨d,.binOp .gtr t x y yt,ty,ps,af,g⟩).run P w=.ok (.value (.bool (decide (b<a)))) w:=by
 simp[execOp,hx,hy,eqGuard,binOp,Op.intCmp,go_sem]
theorem gQ (hx:ρ x=.int k a)(hy:ρ y=.int k b):(execOp ρ ⟨d,.binOp .geq t x y yt,ty,ps,af,g⟩).run P w=.ok (.value (.bool (decide (b≤a)))) w:=by
 simp[execOp,hx,hy,eqGuard,binOp,Op.intCmp,go_sem]
theorem mT (t:TypeId)(x y:Value):∃d,Op.equal t x y=Op.equalIn (d+1) t x y:=⟨9999,rfl⟩
theorem FJ {a b:ByteArray}(hx:ρ x=.string a)(hy:ρ y=.string b):(execOp ρ ⟨d,.binOp .eql t x y yt,ty,ps,af,g⟩).run P w=.ok (.value (.bool (a.toList == b.toList))) w:=by
 simp[execOp,hx,hy,eqGuard,binOp,Op.stringOp,go_sem]
theorem Ef {a b:ByteArray}(hx:ρ x=.string a)(hy:ρ y=.string b):(execOp ρ ⟨d,.binOp .neq t x y yt,ty,ps,af,g⟩).run P w=.ok (.value (.bool (!(a.toList == b.toList)))) w:=by
 simp[execOp,hx,hy,eqGuard,binOp,Op.stringOp,go_sem]
theorem qT {e:TypeId}{p:Option Addr}(hx:ρ x=.pointer p)(hy:ρ y=.pointer none)(ht:P.underlying t=some (.pointer e)):(execOp ρ ⟨d,.binOp .eql t x y yt,ty,ps,af,g⟩).run P w=.ok (.value (.bool p.isNone)) w:=by
 obtain⟨D,hD⟩:=mT t (.pointer p) (.pointer none);cases p<;>simp[execOp,hx,hy,eqGuard,binOp,hD,Op.equalIn,run_underlying ht,go_sem]
theorem zJ {e:TypeId}{p:Option Addr}(hx:ρ x=.pointer p)(hy:ρ y=.pointer none)(ht:P.underlying t=some (.pointer e)):(execOp ρ ⟨d,.binOp .neq t x y yt,ty,ps,af,g⟩).run P w=.ok (.value (.bool p.isSome)) w:=by
 obtain⟨D,hD⟩:=mT t (.pointer p) (.pointer none);cases p<;>simp[execOp,hx,hy,eqGuard,binOp,hD,Op.equalIn,run_underlying ht,go_sem]
theorem wC {e:TypeId}{p:Option Addr}{n c:Nat}(hx:ρ x=.slice p n c)(hy:ρ y=.slice none 0 0)(ht:P.underlying t=some (.slice e)):(execOp ρ ⟨d,.binOp .eql t x y yt,ty,ps,af,g⟩).run P w=.ok (.value (.bool p.isNone)) w:=by
 obtain⟨D,hD⟩:=mT t (.slice p n c) (.slice none 0 0);cases p<;>simp[execOp,hx,hy,eqGuard,binOp,hD,Op.equalIn,run_underlying ht,go_sem]
theorem dr {r:Result Next}{c:Prop}[Decidable c](h:r=.ok (.value (.bool (decide c))) w)(hc:c):r=.ok (.value (.bool true)) w:=by rw[h,decide_eq_true hc]
theorem cV {r:Result Next}{c:Prop}[Decidable c](h:r=.ok (.value (.bool (decide c))) w)(hc:¬c):r=.ok (.value (.bool false)) w:=by rw[h,decide_eq_false hc]
theorem aH {r:Result Next}{u v:Value}(h:r=.ok (.value u) w)(e:u=v):r=.ok (.value v) w:=by rw[h,e]
theorem au {e:TypeId}{p:Option Addr}{n c:Nat}(hx:ρ x=.slice p n c)(ht:P.underlying t=some (.slice e)):(execOp ρ ⟨d,.call { callee:=.builtin .len,args:=#[x],argTypes:=#[t] },ty,ps,af,g⟩).run P w=.ok (.value (.int .i64 (n:Int))) w:=by
 simp[execOp,resolve,hx,invoke,builtin,Builtin.len_,run_underlying ht,goInt,go_sem]
theorem nw {s:ByteArray}(hx:ρ x=.string s)(ht:P.underlying t=some .string):(execOp ρ ⟨d,.call { callee:=.builtin .len,args:=#[x],argTypes:=#[t] },ty,ps,af,g⟩).run P w=.ok (.value (.int .i64 (s.size:Int))) w:=by
 simp[execOp,resolve,hx,invoke,builtin,Builtin.len_,run_underlying ht,goInt,go_sem]
theorem wD {tt:Array TypeId}(hx:ρ x=.int k a)(hy:ρ y=.int k b):(execOp ρ ⟨d,.call { callee:=.builtin .min,args:=#[x,y],argTypes:=tt },ty,ps,af,g⟩).run P w=.ok (.value (.int k (min a b))) w:=by
 have h:(if b<a then b else a)=min a b:=by omega
 simp[execOp,resolve,hx,hy,invoke,builtin,Builtin.min_,Builtin.min2,go_sem,h]
theorem tP {tt:Array TypeId}(hx:ρ x=.int k a)(hy:ρ y=.int k b):(execOp ρ ⟨d,.call { callee:=.builtin .max,args:=#[x,y],argTypes:=tt },ty,ps,af,g⟩).run P w=.ok (.value (.int k (max a b))) w:=by
 have h:(if a<b then b else a)=max a b:=by omega
 simp[execOp,resolve,hx,hy,invoke,builtin,Builtin.max_,Builtin.max2,go_sem,h]
theorem an {e:TypeId}{p:Addr}{n c z:Nat}{i:Int}(hx:ρ x=.slice (some p) n c)(hy:ρ y=.int k i)(ht:P.underlying t=some (.slice e))(hz:(P.info? e).map (·.size)=some z)(h0:0≤i)(h1:i<n) :
 (execOp ρ ⟨d,.indexAddr t x y,ty,ps,af,g⟩).run P w=.ok (.value (.pointer (some (p.add (i.toNat * z))))) w:=by
 obtain⟨j,hj,hjz⟩:=Option.map_eq_some_iff.1 hz;simp[execOp,hx,hy,Instr.indexAt,run_underlying ht,asIntOf,sizeOf,typeInfo,hj,hjz,h0,h1,go_sem]
theorem Ex {e:TypeId}{v:Value}(hx:ρ x=v):(execOp ρ ⟨d,.box e x,ty,ps,af,g⟩).run P w=.ok (.value (.pointer (some ⟨w.heap.size,0,none⟩))) (w.alloc (.cells v.cells e)):=by
 simp[execOp,hx,Instr.box,newVar,newRow,newObj,Sem.run,go_sem]
theorem xi {e:TypeId}{v:Value}(hz:(P.info? e).bind (·.zero)=some v):(execOp ρ ⟨d,.alloc e,ty,ps,af,g⟩).run P w=.ok (.value (.pointer (some ⟨w.heap.size,0,none⟩))) (w.alloc (.cells v.cells e)):=by
 cases hi:P.info? e with
 | none=>simp[hi]at hz
 | some i=>simp[hi]at hz;simp[execOp,Instr.alloc,zeroValue,typeInfo,hi,hz,newVar,newRow,newObj,Sem.run,go_sem]
end
def Rd (w:World)(sz:Nat)(v:Value)(n:Nat)(cs:List Value):Prop:=
 ∃A c,v=.slice A n c∧n≤c∧cs.length=n * sz∧(n=0∨∃p,A=some p∧∀j u,cs[j]?=some u→w.cell? (p.add j)=some u)
def jD (fr:Nat×Nat)(m:Nat):Prop:=fr=(0,0)∨m≤fr.1
theorem jD.zero (m:Nat):jD (0,0) m:=.inl rfl
theorem Sat.tv {W w:World}{L:List As}{b j m:Nat}{cs:Array Value}{t:TypeId}{fr:Nat×Nat}(s:Sat W w (aS b (.cells cs t fr)::L))(hf:jD fr m)(hj:j<m):w.frozen? ⟨b,j,none⟩=false:=by
 rcases hf with rfl | h
 ·
  exact s.free
 ·
  obtain⟨lo,hi⟩:=fr;have h:m≤lo:=h;simp[World.frozen?,s.block.1];omega
def row (e sz:Nat)(v:Value)(n:Nat)(cs:List Value):As:=fun h=>
 (v=.slice none 0 0∧n=0∧cs=[])∨
 (∃b cap sp fr,v=.slice (some ⟨b,0,none⟩) n cap∧n≤cap∧cap≤9223372036854775807∧cs.length=n * sz∧(cs++sp).length=cap * sz∧jD fr (cap * sz)∧h b=some (.cells (cs++sp).toArray e fr))
theorem add_lit (b j i:Nat):(⟨b,j,none⟩:Addr).add i=⟨b,j+i,none⟩:=by unfold Addr.add;split<;>simp_all
theorem add_add (p:Addr)(i j:Nat):(p.add i).add j=p.add (i+j):=by
 unfold Addr.add
 by_cases hi:i=0
 ·
  subst hi;simp
 ·
  by_cases hj:j=0
  ·
   subst hj;simp[hi]
  ·
   simp[hi,hj,Nat.add_assoc]
section
variable {W w:World} {e sz n:Nat} {v:Value} {cs:List Value} {L:List As}
theorem Rd.below {w':World}(h:Rd w sz v n cs)(hb:∀p u,w.cell? p=some u→w'.cell? p=some u):Rd w' sz v n cs:=by
 obtain⟨A,c,hv,hc,hl,h⟩:=h;refine⟨A,c,hv,hc,hl,h.imp id ?_⟩;rintro ⟨p,hp,hh⟩;exact⟨p,hp,fun j u e=>hb _ _ (hh j u e)⟩
theorem Rd.sat (h:Rd W sz v n cs)(s:Sat W w L):Rd w sz v n cs:=
 h.below fun p u e=>by rw[s.below.cell (World.block_lt_of_cell? _ _ e)];exact e
theorem Sat.rd (s:Sat W w (row e sz v n cs::L)):Rd w sz v n cs:=by
 obtain⟨_,h,⟨h1,h2,a,s1,s2,x,z⟩,t⟩:=s;rcases x with ⟨rfl,rfl,rfl⟩ | ⟨b,cap,sp,fr,rfl,hn,hcap,hl,hl2,hfr,hb⟩
 ·
  exact⟨none,0,rfl,Nat.le_refl _,by simp,.inl rfl⟩
 ·
  refine⟨_,cap,rfl,hn,hl,.inr ⟨_,rfl,fun j u e=>?_⟩⟩;have:=(t b _ (s1 _ _ hb)).2;rw[add_lit];simp only[World.cell?,this];have hj:j<cs.length:=(List.getElem?_eq_some_iff.1 e).1;simp[List.getElem?_append_left hj,e]
theorem Rd.len (h:Rd w sz v n cs):cs.length=n * sz:=let ⟨_,_,_,_,hl,_⟩:=h;hl
theorem Rd.form (h:Rd w sz v n cs):∃A c,v=.slice A n c∧n≤c:=let ⟨A,c,hv,hc,_⟩:=h;⟨A,c,hv,hc⟩
theorem Rd.place (h:Rd w sz v n cs)(h0:0<n):∃p c,v=.slice (some p) n c∧n≤c∧∀j u,cs[j]?=some u→w.cell? (p.add j)=some u:=by
 obtain⟨A,c,hv,hc,hl,h | ⟨p,rfl,hh⟩⟩:=h
 ·
  omega
 ·
  exact⟨p,c,hv,hc,hh⟩
theorem Sat.bp (s:Sat W w L)(e sz:Nat):Sat W w (row e sz (.slice none 0 0) 0 []::L):=
 ⟨s.below,let ⟨h,x,y⟩:=s.own;⟨h,⟨fun _=>none,h,fun _=>.inl rfl,fun _ _ e=>(by cases e),Sub.refl h,Or.inl ⟨rfl,rfl,rfl⟩,x⟩,y⟩⟩
theorem Sat.xL (s:Sat W w L)(e sz n:Nat)(cells:Array Value)(hs:cells.size=n * sz)(hn:n≤9223372036854775807) :
 Sat W (w.alloc (.cells cells e)) (row e sz (.slice (some ⟨w.heap.size,0,none⟩) n n) n cells.toList::L):=
 (s.alloc (.cells cells e)).imp fun h hh=>.inr ⟨w.heap.size,n,[],(0,0),rfl,Nat.le_refl _,hn,by simpa using hs,by simpa using hs,jD.zero _,by rw[show h w.heap.size=_ from hh];simp⟩
theorem Sat.setCells {b:Nat}{t:TypeId}{fr:Nat×Nat}(news:List Value):∀ {w:World} (o:Nat) (olds rest:List Value),olds.length=o→news.length≤rest.length→Sat W w (aS b (.cells (olds++rest).toArray t fr)::L)→
 Sat W (w.setCells b o news) (aS b (.cells (olds++news++rest.drop news.length).toArray t fr)::L):=by
 induction news with
 | nil=>intro w o olds rest _ _ s;simpa[World.setCells]using s
 | cons u r ih =>
   intro w o olds rest ho hl s;cases rest with
   | nil=>simp at hl
   | cons x rest =>
     have s1:=s.store (j:=o) u
     have he:(olds++x::rest).toArray.setIfInBounds o u=(olds++[u]++rest).toArray:=by
      rw[List.setIfInBounds_toArray]
      congr 1
      rw[List.set_append_right _ _ (by omega),ho];simp
     rw[he]at s1;have:=ih (o+1) (olds++[u]) rest (by simp;omega) (by simpa using hl) s1;simpa[World.setCells]using this
end
section
variable {P:Program} {W w:World} {ρ:Operand→Value} {d:Option Tmp} {ty t tx e:TypeId} {ps:String} {af:Array Edge} {g:Option (Nat×Bool)} {x y:Operand}
variable {sz n k:Nat} {v u:Value} {cs ns:List Value} {L:List As}
theorem Rd.src {e':TypeId}(h:Rd w sz u k ns)(ht:P.underlying tx=some (.slice e'))(h1:∀z∈ns,z.oneCell'=true):Src P sz tx u k ns w:=by
 obtain⟨A,c,rfl,hc,hl,h | ⟨p,rfl,hh⟩⟩:=h
 ·
  subst h;obtain rfl:ns=[]:=List.eq_nil_of_length_eq_zero (by simpa using hl);cases A with
  | none=>exact Src.ofNil w ht c
  | some p=>exact Src.ofSlice w ht p 0 c [] (by simp) (fun j z e=>by simp at e) (fun _ h=>by cases h)
 ·
  exact Src.ofSlice w ht p k c ns hl hh h1
theorem grownCap_le (w:World)(need old:Nat)(e:TypeId)(h:need<9223372036854775808):need≤grownCap w need old e∧grownCap w need old e≤9223372036854775807:=by
 unfold grownCap;simp only[Question.cut];have:=Nat.mod_lt (w.tape w.drawn (.appendCap need old e)) (show 0<2 ^ 63-need by omega);omega
theorem iq (z:Array Value)(m:Nat):(Builtin.zeroCells z m).size=m * z.size:=by simp[Builtin.zeroCells]
theorem wK (i:TypeInfo)(z:Value)(ht:P.underlying t=some (.slice e))(hi:P.info? e=some i)(hz:i.zero=some z)(hzs:z.cells.size=sz)(hsz:i.size=sz)
 (s:Sat W w (row e sz v n cs::L)) (hs:Src P sz tx u k ns w) (hn:(n+k) * i.bytes≤140737488355328) (hn2:n+k≤140737488355328) :
 ∃v' w',(Builtin.append_ #[t,tx] ty #[v,u]).run P w=.ok v' w'∧Sat W w' (row e sz v' (n+k) (cs++ns)::L):=by
 obtain⟨bl,h,⟨h1,h2,a,s1,s2,q,r⟩,t'⟩:=s;have hnl:=hs.newsLen;subst hsz;rcases q with ⟨rfl,rfl,rfl⟩ | ⟨b,cap,sp,fr,rfl,hnc,hcap,hl,hl2,hfr,hb⟩
 ·
  have S0:Sat W w L:=⟨bl,h2,r,fun b o e=>t' b o (s2 _ _ e)⟩
  by_cases hk:k=0
  ·
   subst hk;obtain rfl:ns=[]:=List.eq_nil_of_length_eq_zero (by simpa using hnl);refine⟨_,w,run_append_nothing w t tx ty e i ht hi none 0 0 (Nat.le_refl _) u hs,?_⟩;simpa using S0.bp e i.size
  ·
   refine⟨_,_,run_append_grow_src w t tx ty e i z ht hi hz none 0 0 [] (run_firstCells_none _ _ _ _ _) u k ns hs (by omega) (by omega) (growslice_fits (by omega) hn),?_⟩;have hc:=grownCap_le w (0+k) 0 e (by omega);refine (S0.drew.alloc _).imp fun h hh=>.inr ⟨w.heap.size,grownCap w (0+k) 0 e,(Builtin.zeroCells z.cells (grownCap w (0+k) 0 e-(0+k))).toList,(0,0),rfl,hc.1,hc.2,by simp[hnl],?_,jD.zero _,?_⟩
   ·
    generalize grownCap w (0+k) 0 e=q at hc
    simp only[List.nil_append,List.length_append,Array.length_toList,iq,hzs,hnl];rw[←Nat.add_mul];congr 1;omega
   ·
    rw[show h w.heap.size=_ from hh]
    congr 2
    apply Array.ext';simp
 ·
  have S:Sat W w (aS b (.cells (cs++sp).toArray e fr)::L):=⟨bl,h,⟨h1,h2,a,s1,s2,hb,r⟩,t'⟩;have hcell:∀j u,(cs++sp)[j]?=some u→w.cell? ⟨b,j,none⟩=some u:=fun j u e=>S.pa (by simpa using e)
  by_cases hroom:n+k≤cap
  ·
   have hle:ns.length≤sp.length:=by
    have:(n+k) * i.size≤cap * i.size:=Nat.mul_le_mul_right _ hroom;rw[Nat.add_mul]at this;simp at hl2;omega
   refine⟨_,_,run_append_room_src w t tx ty e i ht hi b 0 n cap u k ns hs hroom (fun j hj=>?_) (fun j hj=>S.tv hfr (by have:(n+k) * i.size≤cap * i.size:=Nat.mul_le_mul_right _ hroom;rw[Nat.add_mul]at this;omega)),?_⟩
   ·
    have:0+n * i.size+j<(cs++sp).length:=by simp;omega
    rw[hcell _ _ (List.getElem?_eq_getElem this)];rfl
   ·
    have S2:=Sat.setCells ns (w:=w) (b:=b) (t:=e) (0+n * i.size) cs sp (by omega) hle S;refine S2.imp fun h hh=>.inr ⟨b,cap,sp.drop ns.length,fr,rfl,hroom,hcap,?_,?_,hfr,hh⟩
    ·
     simp[hl,hnl,Nat.add_mul]
    ·
     simp at hl2 ⊢;omega
  ·
   refine⟨_,_,run_append_grow_src w t tx ty e i z ht hi hz (some ⟨b,0,none⟩) n cap cs ?_ u k ns hs (by omega) (by omega) (growslice_fits (by omega) hn),?_⟩
   ·
    refine run_firstCells_some w.drew i.size n ⟨b,0,none⟩ n cap cs hl fun j u e=>?_;rw[add_lit,Nat.zero_add];exact hcell j u (by rw[List.getElem?_append_left (List.getElem?_eq_some_iff.1 e).1];exact e)
   ·
    have hc:=grownCap_le w (n+k) cap e (by omega);have S0:Sat W w L:=S.drop;refine (S0.drew.alloc _).imp fun h hh=>.inr ⟨w.heap.size,grownCap w (n+k) cap e,(Builtin.zeroCells z.cells (grownCap w (n+k) cap e-(n+k))).toList,(0,0),rfl,hc.1,hc.2,by simp[hl,hnl,Nat.add_mul],?_,jD.zero _,?_⟩
    ·
     simp only[List.length_append,Array.length_toList,iq,hzs,hnl,hl];rw[←Nat.add_mul,←Nat.add_mul];congr 1;omega
    ·
     rw[show h w.heap.size=_ from hh]
     congr 2
     apply Array.ext';simp
end
end Go.Proofs.YtkjabaihpkbfhaaGreat.K
namespace Go.Proofs.YtkjabaihpkbfhaaGreat.K
open Go Go.RowKit
variable {ds:List Deferred}
def nP (E:Env):Env→Prop
 | []=>True
 | p::E'=>find p.1 E=some p.2∧nP E E'
theorem nP.nil {E:Env}:nP E []:=trivial
theorem nP.cons {E:Env}{i:Nat}{v:Value}{E':Env}(h:find i E=some v)(r:nP E E'):nP E ((i,v)::E'):=⟨h,r⟩
theorem Ag.tp {a:Act}{n:Nat}{E E':Env}(h:Ag a n E ds)(k:nP E E'):Ag a n E' ds:=
 h.forget (by
  induction E' with
  | nil=>intro p hp;cases hp
  | cons q E' ih =>
    intro p hp;cases hp with
    | head=>exact k.1
    | tail _ hp=>exact ih k.2 p hp)
def Holds (args:List Value):Env→Prop
 | []=>True
 | p::E'=>nth args p.1=some p.2∧Holds args E'
theorem Holds.nil {args:List Value}:Holds args []:=trivial
theorem Holds.cons {args:List Value}{i:Nat}{v:Value}{E':Env}(h:nth args i=some v)(r:Holds args E'):Holds args ((i,v)::E'):=⟨h,r⟩
section
variable {P:Program} {Q:Exit→Act→World→Prop} {K:Act→World→Prop} {a:Act} {n:Nat} {E:Env} {w w':World} {R:Ending→World→Prop} {fn:Func}
theorem enter {f:FuncId}{c:Code}{args:List Value}(hf:P.funcs[f]?=some fn)(hb:fn.body=some c)(hn:fn.ntmps=n)(hs:Nat.ble args.length n=true)(hE:Holds args E)
 (k:∀a,Ag a n E→c.wp P (bodyPost P fn R) a w):Calls P f args.toArray w R:=by
 subst hn;refine calls_of_wp hf hb (k _ (Ag.enter args.toArray _ (by simpa using Nat.le_of_ble_eq_true hs) ?_));clear k hs
 induction E with
 | nil=>intro p hp;cases hp
 | cons q E' ih =>
   intro p hp;cases hp with
   | head=>have h:=hE.1;rw[ln]at h;simpa using h
   | tail _ hp=>exact ih hE.2 p hp
theorem pU {c:List PanicEntry}(h:Q (.panic c) a w):Exit.then K Q (.panic c) a w:=h
theorem yI {i:Nat}(h:Q .normal a w):Exit.inBlock i Q (.exit i) a w:=by simpa[Exit.inBlock]using h
theorem wL {i j:Nat}(hn:Nat.beq j i=false)(h:Q (.exit j) a w):Exit.inBlock i Q (.exit j) a w:=by
 have:¬j=i:=fun e=>by subst e;rw[Nat.beq_refl]at hn;cases hn
 simpa[Exit.inBlock,this]using h
theorem fW (hA:Ag a n E)(hr:fn.results=#[])(h:R (.returned (.tuple #[])) w):bodyPost P fn R .ret a w:=
 ⟨hA.defers,.tuple #[],by simp[results,hr,go_sem],h⟩
theorem z1 {t:Nat}{v:Value}(hA:Ag a n E)(hr:fn.results=#[.tmp t])(hv:find t E=some v)(h:R (.returned v) w):bodyPost P fn R .ret a w:=
 ⟨hA.defers,v,by have:=hA.at_ t v hv;simp[results,hr,go_sem,Array.getD_eq_getD_getElem?,this],h⟩
theorem BF {t u:Nat}{v x:Value}(hA:Ag a n E)(hr:fn.results=#[.tmp t,.tmp u])(hv:find t E=some v)(hx:find u E=some x)(h:R (.returned (.tuple #[v,x])) w):bodyPost P fn R .ret a w:=
 ⟨hA.defers,.tuple #[v,x],by have h1:=hA.at_ t v hv;have h2:=hA.at_ u x hx;simp[results,hr,go_sem,Array.getD_eq_getD_getElem?,h1,h2],h⟩
theorem Ba {t u s:Nat}{v x y:Value}(hA:Ag a n E)(hr:fn.results=#[.tmp t,.tmp u,.tmp s])(hv:find t E=some v)(hx:find u E=some x)(hy:find s E=some y)(h:R (.returned (.tuple #[v,x,y])) w):bodyPost P fn R .ret a w:=
 ⟨hA.defers,.tuple #[v,x,y],by have h1:=hA.at_ t v hv;have h2:=hA.at_ u x hx;have h3:=hA.at_ s y hy;simp[results,hr,go_sem,Array.getD_eq_getD_getElem?,h1,h2,h3],h⟩
theorem dP {e:Exit}(h:bodyPost P fn R .ret a w):bodyPost P fn R .normal a w:=h
variable {ops:Array Oper} {rest:List Oper} {o:Oper} {d:Nat} {c:Prop} [Decidable c]
theorem Et (hA:Ag a n E ds)(hw:Region.wanted o (yielded ops a.tmps)=true)(hd:o.dst=some d)(hn:Nat.blt d n=true)(hr:(execOp a.eval o).run P w=.ok (.value (.bool (decide c))) w')
 (kt:c→∀a',Ag a' n ((d,.bool true)::E) ds→wpList P ops Q rest a' w') (kf:¬c→∀a',Ag a' n ((d,.bool false)::E) ds→wpList P ops Q rest a' w'):wpList P ops Q (o::rest) a w:=by
 by_cases h:c
 ·
  exact yE hA hw hd hn (dr hr h) (kt h)
 ·
  exact yE hA hw hd hn (cV hr h) (kf h)
theorem E9 (hA:Ag a n E ds)(hw:Region.wanted o (yielded ops a.tmps)=true)(hd:o.dst=some d)(hn:Nat.blt d n=true){b:Bool}(hr:(execOp a.eval o).run P w=.ok (.value (.bool b)) w')
 (kt:b=true→∀a',Ag a' n ((d,.bool true)::E) ds→wpList P ops Q rest a' w') (kf:b=false→∀a',Ag a' n ((d,.bool false)::E) ds→wpList P ops Q rest a' w'):wpList P ops Q (o::rest) a w:=by
 cases b with
 | true=>exact yE hA hw hd hn hr (kt rfl)
 | false=>exact yE hA hw hd hn hr (kf rfl)
def enters (P:Program)(f:Nat):Bool:=match P.funcs[f]? with | some fn=>!(fn.name == "runtime.NumGoroutine") && fn.body.isSome | none=>false
variable {ρ:Operand→Value} {dd:Option Tmp} {ty:TypeId} {ps:String} {af:Array Edge} {g:Option (Nat×Bool)}
theorem gW {f:Nat}{args:Array Value}(h:enters P f=true):(callFunc f args).run P w=.ok (.enter f args) w:=by
 unfold enters at h;cases hf:P.funcs[f]? with
 | none=>rw[hf]at h;cases h
 | some fn =>
   rw[hf]at h;simp only[Bool.and_eq_true,Bool.not_eq_true']at h;have hn:¬fn.name= "runtime.NumGoroutine":=fun e=>by rw[e]at h;simp at h
   have hb:¬fn.body=none:=fun e=>by rw[e]at h;simp at h
   simp[callFunc,hf,hn,hb,go_sem]
theorem Dl {f:Nat}{args:Array Operand}{tys:Array TypeId}{vs:Array Value}(hf:enters P f=true)(hq:ρ (.func f)=.func (.func f) #[] #[])(hv:args.map ρ=vs) :
 (execOp ρ ⟨dd,.call { callee:=.value (.func f),args:=args,argTypes:=tys },ty,ps,af,g⟩).run P w=.ok (.enter f vs) w:=by
 have h:=gW (w:=w) (args:=vs) hf;simp[execOp,resolve,hv,hq,Deferred.ofValue,invoke,h,go_sem]
end
end Go.Proofs.YtkjabaihpkbfhaaGreat.K
namespace Go.Proofs.YtkjabaihpkbfhaaGreat.K
open Go Go.RowKit
variable {ds:List Deferred}
def jN (E:Env):List Operand→Option (List Value)
 | []=>some []
 | x :: l => match ez E x with
   | some v => match jN E l with
     | some vs=>some (v::vs)
     | none=>none
   | none=>none
theorem Ag.jN {a:Act}{n:Nat}{E:Env}(h:Ag a n E ds):∀ {l:List Operand} {vs:List Value},jN E l=some vs→l.map a.eval=vs
 | [],vs,e=>by simp[K.jN]at e;subst e;rfl
 | x :: l, vs, e => by
   unfold K.jN at e;cases hx:ez E x with
   | none=>rw[hx]at e;cases e
   | some v =>
     rw[hx]at e;cases hl:K.jN E l with
     | none=>rw[hl]at e;cases e
     | some us =>
       rw[hl]at e;simp only[Option.some.injEq]at e;subst e;simp[h.ev hx,h.jN hl]
section
variable {P:Program} {ops:Array Oper} {Q:Exit→Act→World→Prop} {a:Act} {n:Nat} {E:Env} {w w' W:World} {rest:List Oper} {d:Nat}
variable {ty t tx e:TypeId} {ps:String} {af:Array Edge} {g:Option (Nat×Bool)} {x y:Operand} {L:List As} {dd:Option Tmp}
theorem lI (hA:Ag a n E ds){f:Nat}{l:List Operand}{tys:Array TypeId}{vs:List Value}(hf:enters P f=true)(hv:jN E l=some vs) :
 (execOp a.eval ⟨dd,.call { callee:=.value (.func f),args:=l.toArray,argTypes:=tys },ty,ps,af,g⟩).run P w=.ok (.enter f vs.toArray) w:=
 Dl hf rfl (by simp[hA.jN hv])
theorem wx (hA:Ag a n E ds){f:Nat}{l:List Operand}{tys:Array TypeId}{vs:List Value}{R:Ending→World→Prop}(hn:Nat.blt d n=true)(hf:enters P f=true)(hv:jN E l=some vs)(hc:Calls P f vs.toArray w R)
 (k:∀e w',R e w'→∃v,e=.returned v∧∀a',Ag a' n ((d,v)::E) ds→wpList P ops Q rest a' w') :
 wpList P ops Q (⟨some d,.call { callee:=.value (.func f),args:=l.toArray,argTypes:=tys },ty,ps,af,none⟩::rest) a w:=
 GA hA rfl rfl hn (lI hA hf hv) hc k
theorem eZ (hA:Ag a n E ds){f:Nat}{l:List Operand}{tys:Array TypeId}{vs:List Value}{R:Ending→World→Prop}(hw:Region.wanted ⟨some d,.call { callee:=.value (.func f),args:=l.toArray,argTypes:=tys },ty,ps,af,g⟩ (yielded ops a.tmps)=true)(hn:Nat.blt d n=true)(hf:enters P f=true)(hv:jN E l=some vs)(hc:Calls P f vs.toArray w R)
 (k:∀e w',R e w'→∃v,e=.returned v∧∀a',Ag a' n ((d,v)::E) ds→wpList P ops Q rest a' w') :
 wpList P ops Q (⟨some d,.call { callee:=.value (.func f),args:=l.toArray,argTypes:=tys },ty,ps,af,g⟩::rest) a w:=
 F4 hA hw rfl hn (lI hA hf hv) hc k
def cN (P:Program)(e:Nat):Option (Option Value×Nat×Nat):=(P.info? e).map fun i=>(i.zero,i.size,i.bytes)
theorem vF {ρ:Operand→Value}{c m:Nat}{v u:Value}{cs ns:List Value}{z:Value}{sz by_:Nat}(hs:ρ x=v)(hu:ρ y=u)(ht:P.underlying t=some (.slice e))(hi:cN P e=some (some z,sz,by_))(hzs:z.cells.size=sz)
 (s:Sat W w (row e sz v c cs::L)) (src:Src P sz tx u m ns w) (h1:(c+m) * by_≤140737488355328) (h2:c+m≤140737488355328) :
 ∃v' w',(execOp ρ ⟨dd,.call { callee:=.builtin .append,args:=[x,y].toArray,argTypes:=[t,tx].toArray },ty,ps,af,g⟩).run P w=.ok (.value v') w'∧Sat W w' (row e sz v' (c+m) (cs++ns)::L):=by
 obtain⟨i,hi',hq⟩:=Option.map_eq_some_iff.1 hi;simp only[Prod.mk.injEq]at hq;obtain⟨hz,hsz,hb⟩:=hq;subst hb;obtain⟨v',w',hr,S⟩:=wK (ty:=ty) i z ht hi' hz hzs hsz s src h1 h2;refine⟨v',w',?_,S⟩;have hr':Sem.run P (Builtin.append_ #[t,tx] ty #[v,u]) w=.ok v' w':=hr
 have he:execOp ρ ⟨dd,.call { callee:=.builtin .append,args:=[x,y].toArray,argTypes:=[t,tx].toArray },ty,ps,af,g⟩=(Builtin.append_ #[t,tx] ty #[v,u]).bind fun r=>Sem.pure (Next.value r):=by
  have hm:(#[x,y]:Array Operand).map ρ=#[v,u]:=by simp[hs,hu]
  show (resolve ρ { callee:=.builtin .append,args:=#[x,y],argTypes:=#[t,tx] } ty).bind (fun d=>invoke d.target d.args)=_;unfold resolve;simp only[hm]
  rfl
 rw[he,Sem.run_bind',hr']
 rfl
theorem GN {c m:Nat}{v u:Value}{cs ns:List Value}{z:Value}{sz by_:Nat}(hA:Ag a n E ds)(hn:Nat.blt d n=true)(hs:ez E x=some v)(hu:ez E y=some u)(ht:P.underlying t=some (.slice e))(hi:cN P e=some (some z,sz,by_))(hzs:z.cells.size=sz)
 (s:Sat W w (row e sz v c cs::L)) (src:Src P sz tx u m ns w) (h1:(c+m) * by_≤140737488355328) (h2:c+m≤140737488355328)
 (k:∀v' w',Sat W w' (row e sz v' (c+m) (cs++ns)::L)→∀a',Ag a' n ((d,v')::E) ds→wpList P ops Q rest a' w') :
 wpList P ops Q (⟨some d,.call { callee:=.builtin .append,args:=[x,y].toArray,argTypes:=[t,tx].toArray },ty,ps,af,none⟩::rest) a w:=by
 obtain⟨v',w',hr,S⟩:=vF (dd:=some d) (ty:=ty) (ps:=ps) (af:=af) (g:=none) (hA.ev hs) (hA.ev hu) ht hi hzs s src h1 h2;exact uo hA rfl rfl hn hr (k v' w' S)
def lits (E:Env):Nat→List (Nat×Operand)→Option (List Value)
 | _,[]=>some []
 | i, (j, x) :: l => bif Nat.beq i j then (match ez E x with
   | some v => match lits E (i + 1) l with
     | some vs=>some (v::vs)
     | none=>none
   | none=>none) else none
theorem nZ {E:Env}:∀ {l:List (Nat×Operand)} {i:Nat} {vs:List Value},lits E i l=some vs→jN E (l.map (·.2))=some vs∧l.map (·.1)=List.range' i l.length∧l.length=vs.length
 | [],i,vs,h=>by simp[lits]at h;subst h;simp[K.jN]
 | (j, x) :: l, i, vs, h => by
   unfold lits at h;cases hb:Nat.beq i j with
   | false=>rw[hb]at h;cases h
   | true =>
     have:=Nat.eq_of_beq_eq_true hb;subst this;rw[hb]at h;simp only[cond_true]at h;cases hx:ez E x with
     | none=>rw[hx]at h;cases h
     | some v =>
       rw[hx]at h;cases hl:lits E (i+1) l with
       | none=>rw[hl]at h;cases h
       | some us =>
         rw[hl]at h;simp only[Option.some.injEq]at h;subst h;obtain⟨h1,h2,h3⟩:=nZ hl;refine⟨by simp[K.jN,hx,h1],by simp[h2,List.range'_succ],by simp[h3]⟩
theorem zV (vs:List Value)(h1:∀v∈vs,v.oneCell'=true):∀(i:Nat) (done rest:List Value),done.length=i→rest.length=vs.length→
 Instr.fill (fun i=>some (i * 1,1)) (done++rest).toArray ((List.range' i vs.length).zip vs)=some (done++vs).toArray:=by
 induction vs with
 | nil=>intro i done rest hi hr;obtain rfl:rest=[]:=List.eq_nil_of_length_eq_zero hr;simp[Instr.fill]
 | cons v vs ih =>
   intro i done rest hi hr;cases rest with
   | nil=>simp at hr
   | cons u rest =>
     have hv:=h1 v (by simp);have hc:v.cells=#[v]:=by cases v<;>simp_all[Value.oneCell',Value.cells]
     simp only[List.length_cons,List.range'_succ,List.zip_cons_cons,Instr.fill,hc];have hlt:¬(i * 1+1 > (done++u::rest).length):=by simp;omega
     simp only[List.size_toArray,List.length_cons,List.length_nil];rw[if_neg (by simp;omega)]
     have he:((#[v].zipIdx).foldl (fun (cs:Array Value) (x:Value×Nat)=>cs.setIfInBounds (i * 1+x.2) x.1) (done++u::rest).toArray)=((done++[v])++rest).toArray:=by
      simp[List.set_append_right _ _ (show done.length≤i by omega),hi]
     have:=ih (fun x hx=>h1 x (List.mem_cons_of_mem _ hx)) (i+1) (done++[v]) rest (by simp;omega) (by simpa using hr);rw[List.append_assoc done [v] vs]at this;rw[show (done++v::vs)=done++([v]++vs) from by simp];refine Eq.trans ?_ this
     congr 1
theorem p8 {l:List (Nat×Operand)}{vs:List Value}{z:Value}{by_ len:Nat}{ρ:Operand→Value}(ht:P.underlying t=some (.slice e))(hi:cN P e=some (some z,1,by_))(hzs:z.cells.size=1)
 (hl:l.map (·.1)=List.range' 0 vs.length) (hv:l.map (fun p=>ρ p.2)=vs) (hn:len=vs.length) (hsm:len≤16777216) (h1:∀v∈vs,v.oneCell'=true) :
 (execOp ρ ⟨dd,.buildSlice t len l.toArray,ty,ps,af,g⟩).run P w=.ok (.value (.slice (some ⟨w.heap.size,0,none⟩) len len)) (w.alloc (.cells vs.toArray e)):=by
 obtain⟨i,hi',hq⟩:=Option.map_eq_some_iff.1 hi;simp only[Prod.mk.injEq]at hq;obtain⟨hz,hsz,hb⟩:=hq;subst hn
 have hp:(l.map fun x=>(x.1,ρ x.2))=(List.range' 0 vs.length).zip vs:=by
  rw[←hl,←hv];clear hl hv h1 hsm
  induction l with
  | nil=>rfl
  | cons x l ih=>simp[ih]
 have hf:∀arr:Array Value,arr.size=vs.length→Instr.fill (fun i=>some (i * 1,1)) arr ((List.range' 0 vs.length).zip vs)=some vs.toArray:=fun arr ha=>by
  have:=zV vs h1 0 [] arr.toList rfl (by simpa using ha);simpa using this
 have hlen:¬(vs.length * 1 > 2 ^ 24):=by omega
 have hfin:(Instr.buildSlice t vs.length ((List.range' 0 vs.length).zip vs).toArray).run P w=.ok (.slice (some ⟨w.heap.size,0,none⟩) vs.length vs.length) (w.alloc (.cells vs.toArray e)):=by
  cases vs with
  | nil=>simp[Instr.buildSlice,run_underlying ht,sizeOf,typeInfo,hi',hsz,Instr.fill,newRow,newObj,Sem.run,go_sem]
  | cons v vs =>
    have h0:¬((v::vs).length * 1=0):=by simp
    have hf':=hf ((Array.range ((v::vs).length * 1)).map fun i=>z.cells[i % z.cells.size]!) (by simp)
    generalize hxs:((List.range' 0 (v::vs).length).zip (v::vs))=xs at hf'
    generalize hN:(v::vs).length=N at *
    have hN0:¬(N * 1=0):=h0;have hN1:¬(N=0):=by omega
    have hN2:¬(16777216<N):=by omega
    simp[Instr.buildSlice,run_underlying ht,sizeOf,typeInfo,zeroValue,hi',hsz,hz,hN1,hN2,newRow,newObj,Sem.run,go_sem];simp only[Value.cells,Nat.mul_one]at hf';rw[hf'];simp[Sem.run,go_sem]
 have he:(execOp ρ ⟨dd,.buildSlice t vs.length l.toArray,ty,ps,af,g⟩)=(Instr.buildSlice t vs.length ((List.range' 0 vs.length).zip vs).toArray).bind fun r=>Sem.pure (Next.value r):=by
  have hm:(l.toArray.map fun (p:Nat×Operand)=>(p.1,ρ p.2))=((List.range' 0 vs.length).zip vs).toArray:=by simp[←hp]
  show (Instr.buildSlice t vs.length (l.toArray.map fun (p:Nat×Operand)=>(p.1,ρ p.2))).bind (fun r=>Sem.pure (Next.value r))=_;rw[hm]
 rw[he,Sem.run_bind',hfin]
 rfl
end
end Go.Proofs.YtkjabaihpkbfhaaGreat.K
namespace Go.Proofs.YtkjabaihpkbfhaaGreat.K
open Go Go.RowKit
variable {ds:List Deferred}
section
variable {P:Program} {ops:Array Oper} {a:Act} {n:Nat} {E:Env} {w:World} {rest:List Oper} {o:Oper} {v:Value} {d:Nat} {c:Prop} [Decidable c]
variable {C:World→Prop} {Q:Act→Prop}
theorem q1 (hA:Ag a n E ds)(hg:o.guard=none)(hd:o.dst=some d)(hn:Nat.blt d n=true)(hr:∀w,C w→(execOp a.eval o).run P w=.ok (.value v) w)
 (k:∀a',Ag a' n ((d,v)::E) ds→wpQuiet P ops C Q rest a'):wpQuiet P ops C Q (o::rest) a:=by
 refine wpQuiet_step fun K hK=>?_;rw[if_pos (by simp[Region.wanted,hg])];refine⟨v,fun w hw=>by simp[Oper.quietAt,hr w hw,Oper.quietUpon],?_⟩;rw[cn hd];exact hK _ (k _ (hA.put hn v))
theorem FZ (hA:Ag a n E ds)(hw:Region.wanted o (yielded ops a.tmps)=true)(hd:o.dst=some d)(hn:Nat.blt d n=true)(hr:∀w,C w→(execOp a.eval o).run P w=.ok (.value v) w)
 (k:∀a',Ag a' n ((d,v)::E) ds→wpQuiet P ops C Q rest a'):wpQuiet P ops C Q (o::rest) a:=by
 refine wpQuiet_step fun K hK=>?_;rw[if_pos hw];refine⟨v,fun w hw=>by simp[Oper.quietAt,hr w hw,Oper.quietUpon],?_⟩;rw[cn hd];exact hK _ (k _ (hA.put hn v))
theorem qS (hA:Ag a n E ds)(hw:Region.wanted o (yielded ops a.tmps)=false)(hd:o.dst=some d)(hn:Nat.blt d n=true)
 (k:∀a',Ag a' n ((d,undef)::E) ds→wpQuiet P ops C Q rest a'):wpQuiet P ops C Q (o::rest) a:=by
 refine wpQuiet_step fun K hK=>?_;rw[hw];simp only[Bool.false_eq_true,if_false];rw[cn hd];exact hK _ (k _ (hA.put hn undef))
theorem sq (hA:Ag a n E ds)(hg:o.guard=none)(hd:o.dst=some d)(hn:Nat.blt d n=true)(hr:∀w,C w→(execOp a.eval o).run P w=.ok (.value (.bool (decide c))) w)
 (kt:c→∀a',Ag a' n ((d,.bool true)::E) ds→wpQuiet P ops C Q rest a') (kf:¬c→∀a',Ag a' n ((d,.bool false)::E) ds→wpQuiet P ops C Q rest a'):wpQuiet P ops C Q (o::rest) a:=by
 by_cases h:c
 ·
  exact q1 hA hg hd hn (fun w hw=>dr (hr w hw) h) (kt h)
 ·
  exact q1 hA hg hd hn (fun w hw=>cV (hr w hw) h) (kf h)
theorem tL (hA:Ag a n E ds)(hw:Region.wanted o (yielded ops a.tmps)=true)(hd:o.dst=some d)(hn:Nat.blt d n=true)(hr:∀w,C w→(execOp a.eval o).run P w=.ok (.value (.bool (decide c))) w)
 (kt:c→∀a',Ag a' n ((d,.bool true)::E) ds→wpQuiet P ops C Q rest a') (kf:¬c→∀a',Ag a' n ((d,.bool false)::E) ds→wpQuiet P ops C Q rest a'):wpQuiet P ops C Q (o::rest) a:=by
 by_cases h:c
 ·
  exact FZ hA hw hd hn (fun w hw=>dr (hr w hw) h) (kt h)
 ·
  exact FZ hA hw hd hn (fun w hw=>cV (hr w hw) h) (kf h)
theorem cZ {id:Nat}{Q':Exit→Act→World→Prop}{l:List Oper}(C:World→Prop)(hm:P.follows .mixedOrders=true)(hB:Region.lexB .any l.toArray=true)(hC:C w.drew)
 (h:wpQuiet P l.toArray C (fun a'=>∀w',C w'→Q' .normal a' w') l a):(Code.region id l.toArray true).wp P Q' a w:=
 wp_region_quiet (C:=C) hm hB hC (by simpa using h)
theorem GC (hA:Ag a n E ds)(hw:Region.wanted o (yielded ops a.tmps)=true)(hd:o.dst=some d)(hn:Nat.blt d n=true)(hr:(execOp a.eval o).run P w=.ok (.value v) w)
 (k:∀a',Ag a' n ((d,v)::E) ds→wpStill P ops w Q rest a'):wpStill P ops w Q (o::rest) a:=by
 refine wpStill_step fun K hK=>?_;rw[if_pos hw];simp only[Oper.still,hr,Oper.stillUpon_value];rw[cn hd];exact hK _ (k _ (hA.put hn v))
theorem tS (hA:Ag a n E ds)(hw:Region.wanted o (yielded ops a.tmps)=false)(hd:o.dst=some d)(hn:Nat.blt d n=true)
 (k:∀a',Ag a' n ((d,undef)::E) ds→wpStill P ops w Q rest a'):wpStill P ops w Q (o::rest) a:=by
 refine wpStill_step fun K hK=>?_;rw[hw];simp only[Bool.false_eq_true,if_false];rw[cn hd];exact hK _ (k _ (hA.put hn undef))
theorem dV {id:Nat}{Q':Exit→Act→World→Prop}{l l1 l2:List Oper}(e:l=l1++l2)(hm:P.follows .mixedOrders=true)(hB:Region.lexTailB .any l.toArray l1.length=true)
 (h:wpStill P l.toArray w.drew (fun a'=>wpList P l.toArray Q' l2 a' w.drew) l1 a):(Code.region id l.toArray true).wp P Q' a w:=by
 refine wp_region_still_tail l1.length hm hB ?_;subst e;simpa using h
end
def dp (Q:Exit→Act→World→Prop):Prop:=∀(c:List PanicEntry) (a:Act) (w:World) (d:Option Tmp) (v:Value),Q (.panic c) (a.put d v) w→Q (.panic c) a w
theorem u9 {P:Program}{fn:Func}{R:Ending→World→Prop}:dp (bodyPost P fn R):=fun c a w d v h=>by
 cases d<;>exact h
theorem qg {K:Act→World→Prop}{Q:Exit→Act→World→Prop}(h:dp Q):dp (Exit.then K Q):=fun c a w d v=>h c a w d v
theorem sI {i:Nat}{Q:Exit→Act→World→Prop}(h:dp Q):dp (Exit.inBlock i Q):=fun c a w d v=>h c a w d v
section
variable {P:Program} {ops:Array Oper} {a:Act} {n:Nat} {E:Env} {w:World} {o:Oper} {v:Value} {d i fuel:Nat} {c:Prop} [Decidable c] {S:World→Prop} {Q:Exit→Act→World→Prop} {listed:Array Bool}
theorem Dz {id:Nat}{l:List Oper}(S:World→Prop)(hm:P.follows .mixedOrders=true)
 (h:wpAnyH P .any l.toArray Q S l.length (Array.replicate l.length false) a w.drew):(Code.region id l.toArray true).wp P Q a w:=
 wp_region_held (S:=S) hm (by simpa using h)
theorem h1 (i:Nat)(hA:Ag a n E ds)(hp:dp Q)(hi:ops[i]?=some o)(hg:o.guard=none)(hd:o.dst=some d)(hn:Nat.blt d n=true)(hs:Region.noSelect ops=true)(hf:Region.free .any ops listed i=true)
 (hrd:(Region.ready .any ops listed).contains i=true) (hS:S w) (hr:∀w,S w→(execOp a.eval o).run P w=.ok (.value v) w)
 (k:∀a',Ag a' n ((d,v)::E) ds→wpAnyH P .any ops Q S fuel (listed.setIfInBounds i true) a' w):wpAnyH P .any ops Q S (fuel+1) listed a w:=by
 refine wpAnyH_take hi hs hf hrd (fun c a w h=>hp c a w _ _ h) (.inl ⟨by simp[Region.wanted,hg],hr⟩) hS ?_;rw[cn hd];exact k _ (hA.put hn v)
theorem Gv (i:Nat)(hrd:Region.ready .any ops listed=[i])(h:wpOp P ops Q i (fun a' w'=>S w'∧wpAnyH P .any ops Q S fuel (listed.setIfInBounds i true) a' w') a w):wpAnyH P .any ops Q S (fuel+1) listed a w:=
 wpAnyH_all hrd (by simp) fun j hj=>by simp at hj;subst hj;exact h
theorem e1 {K:Act→World→Prop}{w':World}(hA:Ag a n E ds)(hi:ops[i]?=some o)(hg:o.guard=none)(hd:o.dst=some d)(hn:Nat.blt d n=true)(hr:(execOp a.eval o).run P w=.ok (.value v) w')
 (k:∀a',Ag a' n ((d,v)::E) ds→K a' w'):wpOp P ops Q i K a w:=by
 unfold wpOp;simp only[hi];rw[if_pos (by simp[Region.wanted,hg])];refine .inl ?_;simp only[Oper.wp,hr,Oper.upon];rw[cn hd];exact k _ (hA.put hn v)
theorem e0 {K:Act→World→Prop}{w':World}(hA:Ag a n E ds)(hi:ops[i]?=some o)(hg:o.guard=none)(hd:o.dst=none)(hr:(execOp a.eval o).run P w=.ok .skip w')(k:K a w'):wpOp P ops Q i K a w:=by
 unfold wpOp;simp only[hi];rw[if_pos (by simp[Region.wanted,hg])];refine .inl ?_;simp only[Oper.wp,hr,Oper.upon,hd];exact k
theorem eF {K:Act→World→Prop}{f:Nat}{l:List Operand}{tys:Array TypeId}{vs:List Value}{ty:TypeId}{ps:String}{af:Array Edge}{R:Ending→World→Prop}(hA:Ag a n E ds)(hi:ops[i]?=some ⟨some d,.call { callee:=.value (.func f),args:=l.toArray,argTypes:=tys },ty,ps,af,none⟩)
 (hn:Nat.blt d n=true) (hf:enters P f=true) (hv:jN E l=some vs) (hc:Calls P f vs.toArray w R) (k:∀e w',R e w'→∃v,e=.returned v∧∀a',Ag a' n ((d,v)::E) ds→K a' w'):wpOp P ops Q i K a w:=by
 unfold wpOp;simp only[hi];rw[if_pos (by simp[Region.wanted])];refine .inl ?_;simp only[Oper.wp,lI hA hf hv,Oper.upon];refine hc.mono fun e w' h=>?_;obtain⟨v,rfl,hk⟩:=k e w' h;exact hk _ (hA.put hn v)
end
end Go.Proofs.YtkjabaihpkbfhaaGreat.K
namespace Go.Proofs.YtkjabaihpkbfhaaGreat.K
open Go Go.RowKit
variable {ds:List Deferred}
def gR (A:Option Addr)(c sz i:Nat):Option Addr:=if c=i then A else A.map (·.add (i * sz))
section
variable {P:Program} {w:World} {ρ:Operand→Value} {d:Option Tmp} {ty t e:TypeId} {ps:String} {af:Array Edge} {g:Option (Nat×Bool)} {x y z:Operand}
variable {A:Option Addr} {n c sz:Nat} {i j:Int} {k k':IntKind}
theorem yL (hx:ρ x=.slice A n c)(hy:ρ y=.int k i)(ht:P.underlying t=some (.slice e))(hz:(P.info? e).map (·.size)=some sz)(h0:0≤i)(h1:i≤n) :
 (execOp ρ ⟨d,.slice t x (some y) none none,ty,ps,af,g⟩).run P w=.ok (.value (.slice (gR A c sz i.toNat) (n-i.toNat) (c-i.toNat))) w:=by
 obtain⟨q,hq,hqz⟩:=Option.map_eq_some_iff.1 hz;simp[execOp,Instr.sliceAt,Instr.slice,Instr.sliceBounds,Instr.sliceBound,run_underlying ht,hx,hy,asIntOf,h0,h1,sizeOf,typeInfo,hq,hqz,gR,go_sem]
theorem sJ (hx:ρ x=.slice A n c)(hy:ρ y=.int k j)(ht:P.underlying t=some (.slice e))(hz:(P.info? e).map (·.size)=some sz)(h0:0≤j)(h1:j≤c) :
 (execOp ρ ⟨d,.slice t x none (some y) none,ty,ps,af,g⟩).run P w=.ok (.value (.slice (gR A c sz 0) j.toNat c)) w:=by
 obtain⟨q,hq,hqz⟩:=Option.map_eq_some_iff.1 hz;simp[execOp,Instr.sliceAt,Instr.slice,Instr.sliceBounds,Instr.sliceBound,run_underlying ht,hx,hy,asIntOf,h0,h1,sizeOf,typeInfo,hq,hqz,gR,go_sem]
theorem wS (hx:ρ x=.slice A n c)(hy:ρ y=.int k i)(hw:ρ z=.int k' j)(ht:P.underlying t=some (.slice e))(hz:(P.info? e).map (·.size)=some sz)(h0:0≤i)(h1:i≤j)(h2:j≤c) :
 (execOp ρ ⟨d,.slice t x (some y) (some z) none,ty,ps,af,g⟩).run P w=.ok (.value (.slice (gR A c sz i.toNat) (j.toNat-i.toNat) (c-i.toNat))) w:=by
 obtain⟨q,hq,hqz⟩:=Option.map_eq_some_iff.1 hz;obtain⟨jj,rfl⟩:=Int.eq_ofNat_of_zero_le (show 0≤j by omega);have h3:(0:Int)≤(jj:Int):=by omega
 have h4:jj≤c:=by omega
 simp[h4,execOp,Instr.sliceAt,Instr.slice,Instr.sliceBounds,Instr.sliceBound,run_underlying ht,hx,hy,hw,asIntOf,h0,h2,h3,h1,sizeOf,typeInfo,hq,hqz,gR,go_sem]
theorem Rd.cut {cs:List Value}(h:Rd w sz (.slice A n c) n cs)(i j:Nat)(hij:i≤j)(hj:j≤n):Rd w sz (.slice (gR A c sz i) (j-i) (c-i)) (j-i) ((cs.drop (i * sz)).take ((j-i) * sz)):=by
 obtain⟨A',c',hv,hc,hl,h⟩:=h
 injection hv with h1 h2 h3
 subst h1 h3;refine⟨_,_,rfl,by omega,?_,?_⟩
 ·
  have:j * sz≤n * sz:=Nat.mul_le_mul_right _ hj;have e:(j-i) * sz=j * sz-i * sz:=Nat.sub_mul ..;simp;omega
 ·
  by_cases h0:j-i=0
  ·
   exact .inl h0
  ·
   right
   rcases h with h | ⟨p,rfl,hh⟩
   ·
    omega
   ·
    have:c≠i:=by omega
    refine⟨p.add (i * sz),by simp[gR,this],fun q u e=>?_⟩;rw[add_add];have hq:=(List.getElem?_eq_some_iff.1 e).1;rw[List.getElem?_take_of_lt (by simp at hq;omega),List.getElem?_drop]at e;exact hh _ _ e
theorem Rd.Eg {cs:List Value}(h:Rd w sz (.slice A n c) n cs)(i:Nat)(hi:i≤n):Rd w sz (.slice (gR A c sz i) (n-i) (c-i)) (n-i) (cs.drop (i * sz)):=by
 have:=h.cut i n hi (Nat.le_refl _);have hl:=h.len;rwa[List.take_of_length_le (by rw[Nat.sub_mul];simp;omega)]at this
theorem Rd.Cx {cs:List Value}(h:Rd w sz (.slice A n c) n cs)(j:Nat)(hj:j≤n):Rd w sz (.slice (gR A c sz 0) j c) j (cs.take (j * sz)):=by
 have:=h.cut 0 j (Nat.zero_le _) hj;simpa using this
def B0 (E:Env):List (Nat×Operand)→Option (List (Nat×Value))
 | []=>some []
 | (i, x) :: l => match ez E x with
   | some v => match B0 E l with
     | some vs=>some ((i,v)::vs)
     | none=>none
   | none=>none
theorem Ag.B0 {a:Act}{n:Nat}{E:Env}(h:Ag a n E ds):∀ {l:List (Nat×Operand)} {vs:List (Nat×Value)},B0 E l=some vs→l.map (fun p=>(p.1,a.eval p.2))=vs
 | [],vs,e=>by simp[K.B0]at e;subst e;rfl
 | (i, x) :: l, vs, e => by
   unfold K.B0 at e;cases hx:ez E x with
   | none=>rw[hx]at e;cases e
   | some v =>
     rw[hx]at e;cases hl:K.B0 E l with
     | none=>rw[hl]at e;cases e
     | some us =>
       rw[hl]at e;simp only[Option.some.injEq]at e;subst e;simp[h.ev hx,h.B0 hl]
theorem ax {a:Act}{n:Nat}{E:Env}{v:Value}(hA:Ag a n E ds){l:List (Nat×Operand)}{vs:List (Nat×Value)}(hv:B0 E l=some vs)(hb:∀w,(Instr.build t vs.toArray).run P w=.ok v w) :
 (execOp a.eval ⟨d,.build t l.toArray,ty,ps,af,g⟩).run P w=.ok (.value v) w:=by
 have hm:(l.toArray.map fun (p:Nat×Operand)=>(p.1,a.eval p.2))=vs.toArray:=by
  have:=hA.B0 hv;simp[←this]
 have he:(execOp a.eval ⟨d,.build t l.toArray,ty,ps,af,g⟩)=(Instr.build t vs.toArray).bind fun r=>Sem.pure (Next.value r):=by
  show (Instr.build t (l.toArray.map fun (p:Nat×Operand)=>(p.1,a.eval p.2))).bind (fun r=>Sem.pure (Next.value r))=_;rw[hm]
 rw[he,Sem.run_bind',hb]
 rfl
theorem CS {a:Act}{m by_ len:Nat}{E:Env}{zv:Value}(hA:Ag a m E ds){l:List (Nat×Operand)}{vs:List Value}(hv:lits E 0 l=some vs)(ht:P.underlying t=some (.slice e))(hi:cN P e=some (some zv,1,by_))(hzs:zv.cells.size=1)
 (hn:len=vs.length) (hsm:len≤16777216) (h1:∀v∈vs,v.oneCell'=true) :
 (execOp a.eval ⟨d,.buildSlice t len l.toArray,ty,ps,af,g⟩).run P w=.ok (.value (.slice (some ⟨w.heap.size,0,none⟩) len len)) (w.alloc (.cells vs.toArray e)):=by
 obtain⟨h2,h3,h4⟩:=nZ hv;refine p8 ht hi hzs (by rw[h3,h4]) ?_ hn hsm h1;have:=hA.jN h2;rw[←this];simp
theorem Sat.xU {W:World}{L:List As}(s:Sat W w L)(e:Nat)(vs:List Value)(len:Nat)(hn:len=vs.length)(hs:len≤16777216):Sat W (w.alloc (.cells vs.toArray e)) (row e 1 (.slice (some ⟨w.heap.size,0,none⟩) len len) len vs::L):=by
 have:=s.xL e 1 len vs.toArray (by simp[hn]) (by omega);simpa using this
end
section
variable {P:Program} {ops:Array Oper} {Q:Exit→Act→World→Prop} {a:Act} {n:Nat} {E:Env} {w w' W:World} {rest:List Oper} {d:Nat}
variable {ty t tx e:TypeId} {ps:String} {af:Array Edge} {x y:Operand} {L:List As}
theorem Sat.a8:∀ {M L:List As},Sat W w (M++L)→Sat W w L
 | [],_,s=>s
 | _::_,_,s=>Sat.a8 s.drop
theorem Sat.nil {L:List As}(s:Sat W w L):Sat W w []:=⟨s.below,fun _=>Option.none,trivial,fun _ _ e=>by cases e⟩
theorem Sat.ay {M:As}{L:List As}(s:Sat W w L)(t:Sat w w' [M]):Sat W w' (M::L):=s.ah t
theorem Rd.nil {n c:Nat}{cs:List Value}{sz:Nat}(h:Rd w sz (.slice none n c) n cs):n=0∧cs=[]:=by
 obtain⟨A,c',hv,hc,hl,h⟩:=h
 injection hv with h1 h2 h3
 have:n=0:=by
  rcases h with h | ⟨p,hp,_⟩
  ·
   exact h
  ·
   rw[hp]at h1;cases h1
 exact⟨this,List.eq_nil_of_length_eq_zero (by rw[hl,this];simp)⟩
theorem eP {c m:Nat}{v u:Value}{cs ns:List Value}{z:Value}{sz by_:Nat}(hA:Ag a n E ds)(hn:Nat.blt d n=true)(hs:ez E x=some v)(hu:ez E y=some u)(ht:P.underlying t=some (.slice e))(hi:cN P e=some (some z,sz,by_))(hzs:z.cells.size=sz)
 (s:Sat W w (row e sz v c cs::L)) (src:Src P sz tx u m ns w) (h1:(c+m) * by_≤140737488355328) (h2:c+m≤140737488355328)
 (k:∀A cc w',c+m≤cc→Sat W w' (row e sz (.slice A (c+m) cc) (c+m) (cs++ns)::L)→∀a',Ag a' n ((d,.slice A (c+m) cc)::E) ds→wpList P ops Q rest a' w') :
 wpList P ops Q (⟨some d,.call { callee:=.builtin .append,args:=[x,y].toArray,argTypes:=[t,tx].toArray },ty,ps,af,none⟩::rest) a w:=
 GN hA hn hs hu ht hi hzs s src h1 h2 fun v' w' S=>by
  obtain⟨A,cc,rfl,hc⟩:=S.rd.form;exact k A cc w' hc S
theorem eA {i:Nat}{K:Act→World→Prop}{c m:Nat}{v u:Value}{cs ns:List Value}{z:Value}{sz by_:Nat}(hA:Ag a n E ds)(hi':ops[i]?=some ⟨some d,.call { callee:=.builtin .append,args:=[x,y].toArray,argTypes:=[t,tx].toArray },ty,ps,af,none⟩)(hn:Nat.blt d n=true)(hs:ez E x=some v)(hu:ez E y=some u)(ht:P.underlying t=some (.slice e))(hi:cN P e=some (some z,sz,by_))(hzs:z.cells.size=sz)
 (s:Sat W w (row e sz v c cs::L)) (src:Src P sz tx u m ns w) (h1:(c+m) * by_≤140737488355328) (h2:c+m≤140737488355328)
 (k:∀A cc w',c+m≤cc→Sat W w' (row e sz (.slice A (c+m) cc) (c+m) (cs++ns)::L)→∀a',Ag a' n ((d,.slice A (c+m) cc)::E) ds→K a' w'):wpOp P ops Q i K a w:=by
 obtain⟨v',w',hr,S⟩:=vF (dd:=some d) (ty:=ty) (ps:=ps) (af:=af) (g:=none) (hA.ev hs) (hA.ev hu) ht hi hzs s src h1 h2;obtain⟨A,cc,rfl,hc⟩:=S.rd.form;exact e1 hA hi' rfl rfl hn hr (k A cc w' hc S)
theorem Rd.aw {A:Option Addr}{n c:Nat}{cs:List Value}{sz:Nat}(h:Rd w sz (.slice A n c) n cs)(h0:0<n):∃p,A=some p:=by
 obtain⟨p,c',hv,_⟩:=h.place h0
 injection hv with h1 h2 h3
 exact⟨p,h1⟩
theorem Rd.cell {p:Addr}{n c:Nat}{cs:List Value}{sz:Nat}(h:Rd w sz (.slice (some p) n c) n cs){j:Nat}{u:Value}(hj:cs[j]?=some u):w.cell? (p.add j)=some u:=by
 obtain⟨A,c',hv,hc,hl,h⟩:=h
 injection hv with h1 h2 h3
 rcases h with h | ⟨q,hq,hh⟩
 ·
  subst h;have:=(List.getElem?_eq_some_iff.1 hj).1;rw[hl]at this;omega
 ·
  rw[←h1]at hq
  injection hq with hq
  subst hq;exact hh j u hj
theorem yk {l:List (Nat×Operand)}{vs:List Value}{z:Value}{by_ len:Nat}(hA:Ag a n E ds)(hn:Nat.blt d n=true)(hv:lits E 0 l=some vs)(ht:P.underlying t=some (.slice e))(hi:cN P e=some (some z,1,by_))(hzs:z.cells.size=1)(hl:Nat.beq len vs.length=true)(hsm:Nat.ble len 16777216=true)(h1:∀v∈vs,v.oneCell'=true)
 (s:Sat W w L) (k:∀A w',Sat W w' (row e 1 (.slice A len len) len vs::L)→∀a',Ag a' n ((d,.slice A len len)::E) ds→wpList P ops Q rest a' w'):wpList P ops Q (⟨some d,.buildSlice t len l.toArray,ty,ps,af,none⟩::rest) a w:=
 uo hA rfl rfl hn (CS hA hv ht hi hzs (Nat.eq_of_beq_eq_true hl) (Nat.le_of_ble_eq_true hsm) h1) (k _ _ (s.xU e vs len (Nat.eq_of_beq_eq_true hl) (Nat.le_of_ble_eq_true hsm)))
theorem eL {i:Nat}{K:Act→World→Prop}{l:List (Nat×Operand)}{vs:List Value}{z:Value}{by_ len:Nat}(hA:Ag a n E ds)(hi':ops[i]?=some ⟨some d,.buildSlice t len l.toArray,ty,ps,af,none⟩)(hn:Nat.blt d n=true)(hv:lits E 0 l=some vs)(ht:P.underlying t=some (.slice e))(hi:cN P e=some (some z,1,by_))(hzs:z.cells.size=1)(hl:Nat.beq len vs.length=true)(hsm:Nat.ble len 16777216=true)(h1:∀v∈vs,v.oneCell'=true)
 (s:Sat W w L) (k:∀A w',Sat W w' (row e 1 (.slice A len len) len vs::L)→∀a',Ag a' n ((d,.slice A len len)::E) ds→K a' w'):wpOp P ops Q i K a w:=
 e1 hA hi' rfl rfl hn (CS hA hv ht hi hzs (Nat.eq_of_beq_eq_true hl) (Nat.le_of_ble_eq_true hsm) h1) (k _ _ (s.xU e vs len (Nat.eq_of_beq_eq_true hl) (Nat.le_of_ble_eq_true hsm)))
theorem GF {v:Value}(hA:Ag a n E ds)(hn:Nat.blt d n=true)(hx:ez E x=some v)(s:Sat W w L)
 (k:∀b w',Sat W w' (aS b (.cells v.cells e)::L)→∀a',Ag a' n ((d,.pointer (some ⟨b,0,none⟩))::E) ds→wpList P ops Q rest a' w'):wpList P ops Q (⟨some d,.box e x,ty,ps,af,none⟩::rest) a w:=
 uo hA rfl rfl hn (Ex (hA.ev hx)) (k _ _ (s.alloc _))
theorem goN {v:Value}(hA:Ag a n E ds)(hn:Nat.blt d n=true)(hz:(P.info? e).bind (·.zero)=some v)(s:Sat W w L)
 (k:∀b w',Sat W w' (aS b (.cells v.cells e)::L)→∀a',Ag a' n ((d,.pointer (some ⟨b,0,none⟩))::E) ds→wpList P ops Q rest a' w'):wpList P ops Q (⟨some d,.alloc e,ty,ps,af,none⟩::rest) a w:=
 uo hA rfl rfl hn (xi hz) (k _ _ (s.alloc _))
theorem eN {i:Nat}{K:Act→World→Prop}{v:Value}(hA:Ag a n E ds)(hi':ops[i]?=some ⟨some d,.alloc e,ty,ps,af,none⟩)(hn:Nat.blt d n=true)(hz:(P.info? e).bind (·.zero)=some v)(s:Sat W w L)
 (k:∀b w',Sat W w' (aS b (.cells v.cells e)::L)→∀a',Ag a' n ((d,.pointer (some ⟨b,0,none⟩))::E) ds→K a' w'):wpOp P ops Q i K a w:=
 e1 hA hi' rfl rfl hn (xi hz) (k _ _ (s.alloc _))
theorem jQ {b j:Nat}{v u:Value}{cs:Array Value}{t':TypeId}(hA:Ag a n E ds)(hx:ez E x=some (.pointer (some ⟨b,j,none⟩)))(hy:ez E y=some v)(ht:flat P t=true)(h1:(P.info? t).map (·.size)=some 1)(hv:v.oneCell'=true)
 (s:Sat W w (aS b (.cells cs t' (0,0))::L)) (hj:nth cs.toList j=some u) (k:∀w',Sat W w' (aS b (.cells (cs.setIfInBounds j v) t' (0,0))::L)→wpList P ops Q rest a w'):wpList P ops Q (⟨none,.store t x y,ty,ps,af,none⟩::rest) a w:=
 DE hA rfl rfl (pI (hA.ev hx) (hA.ev hy) ht h1 hv (s.cell hj) s.free) (k _ (s.store v))
theorem eW {i:Nat}{K:Act→World→Prop}{b j:Nat}{v u:Value}{cs:Array Value}{t':TypeId}(hA:Ag a n E ds)(hi':ops[i]?=some ⟨none,.store t x y,ty,ps,af,none⟩)(hx:ez E x=some (.pointer (some ⟨b,j,none⟩)))(hy:ez E y=some v)(ht:flat P t=true)(h1:(P.info? t).map (·.size)=some 1)(hv:v.oneCell'=true)
 (s:Sat W w (aS b (.cells cs t' (0,0))::L)) (hj:nth cs.toList j=some u) (k:∀w',Sat W w' (aS b (.cells (cs.setIfInBounds j v) t' (0,0))::L)→K a w'):wpOp P ops Q i K a w:=
 e0 hA hi' rfl rfl (pI (hA.ev hx) (hA.ev hy) ht h1 hv (s.cell hj) s.free) (k _ (s.store v))
end
end Go.Proofs.YtkjabaihpkbfhaaGreat.K
namespace Go.Proofs.YtkjabaihpkbfhaaGreat.K
open Go Go.RowKit
variable {ds:List Deferred}
def ij (P:Program)(t:Nat):Bool:=match P.underlying t with | some (.struct _)=>true | some (.array _ _)=>true | _=>false
section
variable {P:Program} {w:World}
theorem iF {t:Nat}(h:ij P t=true)(w:World):(isAgg t).run P w=.ok true w:=by
 cases hu:P.underlying t with
 | none=>simp[ij,hu]at h
 | some u =>
   unfold isAgg;cases u<;>simp_all[ij,run_underlying hu,go_sem]
theorem run_loadCellsFrom (p:Addr):∀(cs:List Value) (i:Nat) (acc:Array Value),(∀j u,cs[j]?=some u→w.cell? (p.add (i+j))=some u)→(loadCellsFrom p i cs.length acc).run P w=.ok (acc++cs.toArray) w
 | [],i,acc,_=>by simp[loadCellsFrom,go_sem]
 | v :: cs, i, acc, h => by
   have h0:=h 0 v rfl;have ih:=run_loadCellsFrom p cs (i+1) (acc.push v) fun j u e=>by have:=h (j+1) u (by simpa using e);rwa[show i+1+j=i+(j+1) from by omega]
   simp only[List.length_cons,loadCellsFrom];rw[Nat.add_zero]at h0;simp only[Sem.run_bind];simp only[load,Sem.run,h0,Result.andThen_ok,ih];simp
variable {ρ:Operand→Value} {d:Option Tmp} {ty:TypeId} {ps:String} {af:Array Edge} {g:Option (Nat×Bool)}
theorem ag {t:Nat}{x:Operand}{p:Addr}{cs:List Value}(hx:ρ x=.pointer (some p))(ht:ij P t=true)(hz:(P.info? t).map (·.size)=some cs.length)(hc:∀j u,cs[j]?=some u→w.cell? (p.add j)=some u) :
 (execOp ρ ⟨d,.load t x,ty,ps,af,g⟩).run P w=.ok (.value (.agg cs.toArray)) w:=by
 obtain⟨i,hi,hiz⟩:=Option.map_eq_some_iff.1 hz;have h1:=iF ht w;have h2:=run_loadCellsFrom (P:=P) (w:=w) p cs 0 #[] (by simpa using hc);simp[execOp,hx,Instr.loadAt,Instr.sureAddr,loadVar,h1,sizeOf,typeInfo,hi,hiz,loadCells,h2,go_sem]
theorem aJ {s f off z:Nat}{x:Operand}{p:Addr}(hx:ρ x=.pointer (some p))(hs:aO P s f=some (off,some (z+1))) :
 (execOp ρ ⟨d,.fieldAddr s x f,ty,ps,af,g⟩).run P w=.ok (.value (.pointer (some (p.add off)))) w:=by
 unfold aO at hs
 split at hs
 ·
  rename_i fs hu;cases hf:fs[f]? with
  | none=>rw[hf]at hs;cases hs
  | some fi =>
    rw[hf]at hs;simp only[Option.map_some,Option.some.injEq,Prod.mk.injEq]at hs;obtain⟨rfl,hz⟩:=hs;obtain⟨i,hi,hz⟩:=Option.map_eq_some_iff.1 hz;simp[execOp,hx,Instr.fieldAt,run_underlying hu,hf,Instr.sureAddr,fieldPlace,sizeOf,typeInfo,hi,hz,go_sem]
 ·
  cases hs
theorem Sat.ab {W:World}{L:List As}{b o:Nat}{cs:Array Value}{t:TypeId}{fr:Nat×Nat}{xs:List Value}(s:Sat W w (aS b (.cells cs t fr)::L))(h:(cs.toList.drop o).take xs.length=xs):∀j u,xs[j]?=some u→w.cell? ((⟨b,o,none⟩:Addr).add j)=some u:=fun j u e=>by
 rw[add_lit];have hj:=(List.getElem?_eq_some_iff.1 e).1;refine s.pa ?_;rw[←h,List.getElem?_take_of_lt hj,List.getElem?_drop]at e;simpa using e
theorem iv {b:Nat}{t:TypeId}:∀(news:List Value) (i o:Nat) (olds rest:List Value) (W:World) (L:List As) (w:World),olds.length=o+i→news.length≤rest.length→(∀v∈news,v.oneCell'=true)→Sat W w (aS b (.cells (olds++rest).toArray t (0,0))::L)→
 ∃w',(storeCells ⟨b,o,none⟩ news i).run P w=.ok () w'∧Sat W w' (aS b (.cells (olds++news++rest.drop news.length).toArray t (0,0))::L)
 | [],i,o,olds,rest,W,L,w,_,_,_,s=>⟨w,by simp[storeCells,go_sem],by simpa using s⟩
 | v :: news, i, o, olds, rest, W, L, w, ho, hl, h1, s => by
   cases rest with
   | nil=>simp at hl
   | cons x rest =>
     have hcell:w.cell? ⟨b,o+i,none⟩=some x:=s.pa (by simp[←ho]);have s1:=s.store (j:=o+i) v
     have he:(olds++x::rest).toArray.setIfInBounds (o+i) v=(olds++[v]++rest).toArray:=by
      rw[List.setIfInBounds_toArray,List.set_append_right _ _ (by omega),ho];simp
     rw[he]at s1;obtain⟨w',hr,s'⟩:=iv news (i+1) o (olds++[v]) rest W L _ (by simp;omega) (by simpa using hl) (fun u hu=>h1 u (List.mem_cons_of_mem _ hu)) s1;refine⟨w',?_,by simpa using s'⟩;have hv:=h1 v (by simp)
     have hst:(store (⟨b,o+i,none⟩:Addr) v).run P w=.ok () (w.setCell ⟨b,o+i,none⟩ v):=by
      cases v<;>simp[Value.oneCell']at hv<;>simp[store,Sem.run,hcell,s.free,go_sem]
     rw[storeCells,add_lit];simp only[Sem.run_bind,hst,Result.andThen_ok,hr]
end
section
variable {P:Program} {ops:Array Oper} {Q:Exit→Act→World→Prop} {a:Act} {n:Nat} {E:Env} {w w' W:World} {rest:List Oper}
variable {ty t e:TypeId} {ps:String} {af:Array Edge} {x y:Operand} {L:List As}
theorem uj {ρ:Operand→Value}{dd:Option Tmp}{g:Option (Nat×Bool)}{b o:Nat}{vs cs:List Value}{t':TypeId}(hx:ρ x=.pointer (some ⟨b,o,none⟩))(hy:ρ y=.agg vs.toArray)(h1:(P.info? t).map (·.size)=some vs.length)(hv:∀v∈vs,v.oneCell'=true)
 (s:Sat W w (aS b (.cells cs.toArray t' (0,0))::L)) (hl:o+vs.length≤cs.length) :
 ∃w',(execOp ρ ⟨dd,.store t x y,ty,ps,af,g⟩).run P w=.ok .skip w'∧Sat W w' (aS b (.cells (cs.take o++vs++cs.drop (o+vs.length)).toArray t' (0,0))::L):=by
 obtain⟨i,hi,hiz⟩:=Option.map_eq_some_iff.1 h1;have hs:Sat W w (aS b (.cells (cs.take o++cs.drop o).toArray t' (0,0))::L):=by rwa[List.take_append_drop]
 obtain⟨w',hr,s'⟩:=iv (P:=P) vs 0 o (cs.take o) (cs.drop o) W L w (by simp;omega) (by simp;omega) hv hs;rw[List.drop_drop]at s';refine⟨w',?_,by simpa[Nat.add_comm]using s'⟩
 have he:execOp ρ ⟨dd,.store t x y,ty,ps,af,g⟩=(storeVar t ⟨b,o,none⟩ (.agg vs.toArray)).bind fun _=>Sem.pure Next.skip:=by
  show (Instr.storeAt t (ρ x) (ρ y)).bind (fun _=>Sem.pure Next.skip)=_;rw[hx,hy]
  rfl
 have h2:(storeVar t ⟨b,o,none⟩ (.agg vs.toArray)).run P w=.ok () w':=by
  simp[storeVar,Value.cells,sizeOf,typeInfo,hi,hiz,hr,go_sem]
 rw[he,Sem.run_bind',h2]
 rfl
theorem Fy {b o:Nat}{vs cs:List Value}{t':TypeId}(hA:Ag a n E ds)(hx:ez E x=some (.pointer (some ⟨b,o,none⟩)))(hy:ez E y=some (.agg vs.toArray))(h1:(P.info? t).map (·.size)=some vs.length)(hv:∀v∈vs,v.oneCell'=true)
 (s:Sat W w (aS b (.cells cs.toArray t' (0,0))::L)) (hl:o+vs.length≤cs.length)
 (k:∀w',Sat W w' (aS b (.cells (cs.take o++vs++cs.drop (o+vs.length)).toArray t' (0,0))::L)→wpList P ops Q rest a w'):wpList P ops Q (⟨none,.store t x y,ty,ps,af,none⟩::rest) a w:=by
 obtain⟨w',hr,s'⟩:=uj (dd:=none) (ty:=ty) (ps:=ps) (af:=af) (g:=none) (hA.ev hx) (hA.ev hy) h1 hv s hl;exact DE hA rfl rfl hr (k w' s')
theorem GY {i:Nat}{K:Act→World→Prop}{b o:Nat}{vs cs:List Value}{t':TypeId}(hA:Ag a n E ds)(hi':ops[i]?=some ⟨none,.store t x y,ty,ps,af,none⟩)(hx:ez E x=some (.pointer (some ⟨b,o,none⟩)))(hy:ez E y=some (.agg vs.toArray))(h1:(P.info? t).map (·.size)=some vs.length)(hv:∀v∈vs,v.oneCell'=true)
 (s:Sat W w (aS b (.cells cs.toArray t' (0,0))::L)) (hl:o+vs.length≤cs.length)
 (k:∀w',Sat W w' (aS b (.cells (cs.take o++vs++cs.drop (o+vs.length)).toArray t' (0,0))::L)→K a w'):wpOp P ops Q i K a w:=by
 obtain⟨w',hr,s'⟩:=uj (dd:=none) (ty:=ty) (ps:=ps) (af:=af) (g:=none) (hA.ev hx) (hA.ev hy) h1 hv s hl;exact e0 hA hi' rfl rfl hr (k w' s')
end
theorem kS {α:Type}(enc:α→List Value)(sz:Nat)(h:∀x,(enc x).length=sz)(xs:List α):(xs.flatMap enc).length=xs.length * sz:=by
 induction xs with
 | nil=>simp
 | cons x xs ih=>simp[ih,h,Nat.add_mul,Nat.add_comm]
end Go.Proofs.YtkjabaihpkbfhaaGreat.K
namespace Go.Proofs.YtkjabaihpkbfhaaGreat.K
open Go Go.RowKit
structure Fu {H:Type}(B:DataW H→Nat):Prop where
 lit:∀l,1≤B (.lit l)
 str:∀b,B (.lit (.string b))=b.length+1
 nil:1≤B .nil
 slice:∀es sp,B (.slice es sp)=(es.map B).sum+(sp.map B).sum+1
 agg:∀ps,B (.agg ps)=(ps.map B).sum+1
abbrev tr {H:Type}(enc:TypeId×Value→H)(P:Program)(W:World)(fuel:Nat)(t:TypeId)(cs:List Value):=DataW.trod enc P W 0 (fun _=>true) true fuel t cs
structure Cp (P:Program)(W:World)(t sz:Nat){α:Type}(rel:List Value→α→Prop)(wb:α→Prop)(bk:α→Nat):Prop where
 size:P.cellsOf t=sz
 open_:∀ {H:Type} (enc:TypeId×Value→H) (B:DataW H→Nat),Fu B→∀fuel cs d p,tr enc P W fuel t cs=some (d,p)→∃a,rel cs a∧((d.weights P t).all (·≤reachBytes)=true→wb a)∧bk a≤B d
section
variable {P:Program} {W:World}
theorem Cp.int {t:Nat}{k:IntKind}(ht:P.underlying t=some (.int k))(hc:P.cellsOf t=1):Cp P W t 1 (fun cs (a:Int)=>cs=[.int k a]∧(Lit.int k a).wf=true) (fun _=>True) (fun _=>1):=by
 refine⟨hc,fun enc B hB fuel cs d p h=>?_⟩;cases fuel with
 | zero=>simp[tr,DataW.trod]at h
 | succ fuel =>
   simp only[tr,DataW.trod,ht]at h
   split at h<;>try simp_all
   obtain⟨⟨rfl,hw⟩,rfl,rfl⟩:=h;exact hB.lit _
theorem mapM_some {α β:Type}{f:α→Option β}:∀ {l:List α} {ys:List β},l.mapM f=some ys→ys.length=l.length∧∀(i:Nat) (x:α),l[i]?=some x→∃y,ys[i]?=some y∧f x=some y
 | [],ys,h=>by simp at h;subst h;simp
 | x :: l, ys, h => by
   rw[List.mapM_cons]at h;cases hx:f x with
   | none=>rw[hx]at h;cases h
   | some y =>
     cases hl:l.mapM f with
     | none=>rw[hx,hl]at h;cases h
     | some zs =>
       rw[hx,hl]at h;have:ys=y::zs:=by simpa using h.symm
       subst this;obtain⟨h1,h2⟩:=mapM_some hl;refine⟨by simp[h1],fun i u e=>?_⟩;cases i with
       | zero=>simp at e;subst e;exact⟨y,rfl,hx⟩
       | succ i=>simpa using h2 i u (by simpa using e)
theorem qn {base:Nat}{a:Addr}{n:Nat}{cs:List Value}(h:W.cells? base a n=some cs):cs.length=n∧∀(j:Nat) (u:Value),cs[j]?=some u→W.cell? (a.add j)=some u:=by
 unfold World.cells? at h
 split at h
 ·
  obtain⟨h1,h2⟩:=mapM_some h;simp at h1;refine⟨h1,fun j u e=>?_⟩;have hj:=(List.getElem?_eq_some_iff.1 e).1;obtain⟨y,hy,hc⟩:=h2 j j (List.getElem?_range (by omega));rw[e]at hy
  injection hy with hy
  rw[hc,hy]
 ·
  cases h
theorem qY {sz:Nat}:∀(css:List (List Value)),(∀c∈css,c.length=sz)→css.flatten.length=css.length * sz∧∀j u,css.flatten[j]?=some u→∃i q c,css[i]?=some c∧c[q]?=some u∧j=i * sz+q
 | [],_=>by simp
 | c :: css, h => by
   obtain⟨h1,h2⟩:=qY css fun c hc=>h c (List.mem_cons_of_mem _ hc)
   have hc:=h c (by simp);refine⟨by simp[h1,hc,Nat.add_mul,Nat.add_comm],fun j u e=>?_⟩;simp only[List.flatten_cons]at e
   by_cases hj:j<c.length
   ·
    rw[List.getElem?_append_left hj]at e;exact⟨0,j,c,rfl,e,by omega⟩
   ·
    rw[List.getElem?_append_right (by omega)]at e;obtain⟨i,q,c',hi,hq,hh⟩:=h2 _ _ e;exact⟨i+1,q,c',by simpa using hi,hq,by rw[Nat.add_mul];omega⟩
theorem zU {α H:Type}{bk:α→Nat}{B:DataW H→Nat}:∀(az:List α) (ds:List (DataW H)),az.length=ds.length→(∀(i:Nat) (a:α) (d:DataW H),az[i]?=some a→ds[i]?=some d→bk a≤B d)→(az.map bk).sum≤(ds.map B).sum
 | [],ds,_,_=>by simp
 | a :: az, ds, hl, h => by
   cases ds with
   | nil=>simp at hl
   | cons d ds =>
     have h0:=h 0 a d rfl rfl;have ih:=zU az ds (by simpa using hl) fun i x y hx hy=>h (i+1) x y (by simpa using hx) (by simpa using hy)
     simp;omega
theorem kM {H:Type}{e:Nat}:∀(ds:List (DataW H)) (d:DataW H),d∈ds→∀x∈d.weights P e,x∈DataW.weightsAll P e ds
 | d :: ds, d', hd, x, hx => by
   simp only[DataW.weightsAll,List.mem_append];rcases List.mem_cons.1 hd with rfl | hd
   ·
    exact .inl hx
   ·
    exact .inr (kM ds d' hd x hx)
theorem Cp.slice {t e sz by_:Nat}{α:Type}{rel:List Value→α→Prop}{wb:α→Prop}{bk:α→Nat}(ht:P.underlying t=some (.slice e))(hs:P.cellsOf t=1)(hb:P.bytesOf e=by_)(h:Cp P W e sz rel wb bk) :
 Cp P W t 1 (fun cs (az:List α)=>∃A c css,cs=[.slice A az.length c]∧c≤maxLen∧Rd W sz (.slice A az.length c) az.length (List.flatten css)∧css.length=az.length∧(∀c∈css,c.length=sz)∧∀(i:Nat) (x:List Value) (a:α),css[i]?=some x→az[i]?=some a→rel x a)
  (fun az=>az.length * by_≤reachBytes∧∀a∈az,wb a) (fun az=>(az.map bk).sum+1):=by
 refine⟨hs,fun enc B hB fuel cs d p hh=>?_⟩;cases fuel with
 | zero=>simp[tr,DataW.trod]at hh
 | succ fuel =>
   simp only[tr,DataW.trod,ht]at hh
   split at hh<;>first | (cases hh;done) | skip
   all_goals try (rename_i q;cases q;done)
   ·
    rename_i heq;cases heq;cases hh;refine⟨[],⟨none,0,[],rfl,Nat.zero_le _,⟨none,0,rfl,Nat.le_refl _,by simp,.inl rfl⟩,rfl,by simp,by simp⟩,fun _=>⟨by simp,by simp⟩,?_⟩;simpa using hB.nil
   ·
    rename_i a len cap heq;cases heq
    split at hh
    ·
     rename_i hc;obtain⟨_,hlen,hcap⟩:=hc;cases hm:(List.range len).mapM (fun i=>(W.cells? 0 (a.add (i * P.cellsOf e)) (P.cellsOf e)).bind (DataW.trod enc P W 0 (fun _=>true) true fuel e)) with
     | none=>rw[hm]at hh;cases hh
     | some elems =>
       rw[hm]at hh;simp only[Option.bind_some,if_true]at hh;obtain⟨rest,hr,hh⟩:=Option.map_eq_some_iff.1 hh;simp only[Prod.mk.injEq]at hh;obtain⟨rfl,_⟩:=hh;obtain⟨hl,hat⟩:=mapM_some hm;simp at hl
       have key:∀i,i<len→∃(cs:List Value) (x:DataW _) (pl:List MemPlace) (y:α),W.cells? 0 (a.add (i * sz)) sz=some cs∧elems[i]?=some (x,pl)∧rel cs y∧((x.weights P e).all (·≤reachBytes)=true→wb y)∧bk y≤B x:=by
        intro i hi;obtain⟨y,hy,hb⟩:=hat i i (List.getElem?_range hi);rw[h.size]at hb;obtain⟨cs,hcs,hb⟩:=Option.bind_eq_some_iff.1 hb;obtain⟨y0,p0⟩:=y;obtain⟨z,h1,h2,h3⟩:=h.open_ enc B hB fuel cs y0 p0 hb;exact⟨cs,y0,p0,z,hcs,hy,h1,h2,h3⟩
       have pick:∀m,m≤len→∃(css:List (List Value)) (az:List α),css.length=m∧az.length=m∧∀i,i<m→∃(cs:List Value) (x:DataW _) (pl:List MemPlace) (y:α),css[i]?=some cs∧az[i]?=some y∧W.cells? 0 (a.add (i * sz)) sz=some cs∧elems[i]?=some (x,pl)∧rel cs y∧((x.weights P e).all (·≤reachBytes)=true→wb y)∧bk y≤B x:=by
        intro m
        induction m with
        | zero=>exact fun _=>⟨[],[],rfl,rfl,fun i hi=>by omega⟩
        | succ m ih =>
          intro hm';obtain⟨css,az,h1,h2,h3⟩:=ih (by omega);obtain⟨cs,x,pl,y,k1,k2,k3,k4,k5⟩:=key m (by omega);refine⟨css++[cs],az++[y],by simp[h1],by simp[h2],fun i hi=>?_⟩
          by_cases hi':i<m
          ·
           obtain⟨cs',x',pl',y',q1,q2,q3⟩:=h3 i hi';exact⟨cs',x',pl',y',by rw[List.getElem?_append_left (by omega)];exact q1,by rw[List.getElem?_append_left (by omega)];exact q2,q3⟩
          ·
           obtain rfl:i=m:=by omega
           exact⟨cs,x,pl,y,by simp[←h1],by simp[←h2],k1,k2,k3,k4,k5⟩
       obtain⟨css,az,h1,h2,h3⟩:=pick len (Nat.le_refl _)
       have hsz:∀c∈css,c.length=sz:=fun c hc=>by
        obtain⟨i,hi⟩:=List.mem_iff_getElem?.1 hc;have hil:=(List.getElem?_eq_some_iff.1 hi).1;obtain⟨cs,x,pl,y,q1,q2,q3,_⟩:=h3 i (by omega);rw[hi]at q1
        injection q1 with q1
        subst q1;exact (qn q3).1
       obtain⟨f1,f2⟩:=qY css hsz;subst h2;refine⟨az,⟨some a,cap,css,rfl,hcap,⟨some a,cap,rfl,hlen,by rw[f1,h1],.inr ⟨a,rfl,fun j u e=>?_⟩⟩,h1,hsz,fun i x y hx hy=>?_⟩,fun hw=>⟨?_,fun y hy=>?_⟩,?_⟩
       ·
        obtain⟨i,q,c,hi,hq,rfl⟩:=f2 j u e;have hil:=(List.getElem?_eq_some_iff.1 hi).1;obtain⟨cs,x,pl,y,q1,q2,q3,_⟩:=h3 i (by omega);rw[hi]at q1
        injection q1 with q1
        subst q1;have:=(qn q3).2 q u hq;rwa[add_add]at this
       ·
        have hil:=(List.getElem?_eq_some_iff.1 hy).1;obtain⟨cs,x',pl,y',q1,q2,q3,q4,q5,_⟩:=h3 i hil;rw[hx]at q1;rw[hy]at q2
        injection q1 with q1
        injection q2 with q2
        subst q1 q2;exact q5
       ·
        simp only[DataW.weights,ht,List.all_cons,Bool.and_eq_true,decide_eq_true_eq]at hw;rw[hb]at hw;have:=hw.1;simp only[List.length_map,hl]at this;exact Nat.le_trans (Nat.mul_le_mul_right _ (Nat.le_add_right _ _)) this
       ·
        obtain⟨i,hi⟩:=List.mem_iff_getElem?.1 hy;have hil:=(List.getElem?_eq_some_iff.1 hi).1;obtain⟨cs,x',pl,y',q1,q2,q3,q4,q5,q6,_⟩:=h3 i hil;rw[hi]at q2
        injection q2 with q2
        subst q2;refine q6 ?_;simp only[DataW.weights,ht,List.all_cons,Bool.and_eq_true,List.all_append]at hw;have hw:=hw.2.1;rw[List.all_eq_true]at hw ⊢;exact fun z hz=>hw z (kM _ x' (List.mem_map.2 ⟨_,List.mem_of_getElem? q4,rfl⟩) z hz)
       ·
        rw[hB.slice]
        have:=zU (bk:=bk) (B:=B) az (elems.map (·.1)) (by simp[hl]) fun i y x hy hx=>by
         have hil:=(List.getElem?_eq_some_iff.1 hy).1;obtain⟨cs,x',pl,y',q1,q2,q3,q4,q5,q6,q7⟩:=h3 i hil;rw[hy]at q2
         injection q2 with q2
         subst q2;rw[List.getElem?_map,q4]at hx
         injection hx with hx
         subst hx;exact q7
        omega
    ·
     cases hh
end
end Go.Proofs.YtkjabaihpkbfhaaGreat.K
namespace Go.Proofs.YtkjabaihpkbfhaaGreat.K
open Go Go.RowKit
variable {ds:List Deferred}
theorem qU (b:Nat):∀(xs:List Value) (k:Nat) (pre rest:List Value),pre.length=b+k→xs.length≤rest.length→
 (xs.zipIdx k).foldl (fun (cs:Array Value) (x:Value×Nat)=>cs.setIfInBounds (b+x.2) x.1) (pre++rest).toArray=(pre++xs++rest.drop xs.length).toArray
 | [],k,pre,rest,_,_=>by simp
 | x::xs,k,pre,[],_,h=>by simp at h
 | x :: xs, k, pre, y :: rest, hp, h => by
   simp only[List.zipIdx_cons,List.foldl_cons]
   have e:(pre++y::rest).toArray.setIfInBounds (b+k) x=((pre++[x])++rest).toArray:=by
    simp[List.set_append_right _ _ (show pre.length≤b+k by omega),hp]
   rw[e,qU b xs (k+1) (pre++[x]) rest (by simp;omega) (by simpa using h)];simp
theorem yZ (sz:Nat)(vss:List (List Value))(h1:∀vs∈vss,vs.length=sz):∀(i:Nat) (done rest:List Value),done.length=i * sz→rest.length=vss.length * sz→
 Instr.fill (fun i=>some (i * sz,sz)) (done++rest).toArray ((List.range' i vss.length).zip (vss.map fun vs=>Value.agg vs.toArray))=some (done++vss.flatten).toArray:=by
 induction vss with
 | nil=>intro i done rest hd hr;obtain rfl:rest=[]:=List.eq_nil_of_length_eq_zero (by simpa using hr);simp[Instr.fill]
 | cons vs vss ih =>
   intro i done rest hd hr;have hv:=h1 vs (by simp);have hr':rest.length=sz+vss.length * sz:=by rw[hr];simp[Nat.succ_mul];omega
   simp only[List.length_cons,List.range'_succ,List.map_cons,List.zip_cons_cons,Instr.fill,Value.cells,List.size_toArray,List.length_append];rw[if_neg (by simp;omega)];have e:=qU (i * sz) vs 0 done rest (by omega) (by omega)
   have e2:(vs.toArray.zipIdx).foldl (fun (cs:Array Value) (x:Value×Nat)=>cs.setIfInBounds (i * sz+x.2) x.1) (done++rest).toArray=((done++vs)++rest.drop vs.length).toArray:=by
    rw[←e];simp
   have:=ih (fun x hx=>h1 x (List.mem_cons_of_mem _ hx)) (i+1) (done++vs) (rest.drop vs.length) (by simp[hv,hd,Nat.succ_mul]) (by simp;omega);simp only[List.append_assoc]at this e2;simp only[List.flatten_cons];refine Eq.trans ?_ this
   congr 1
section
variable {P:Program} {w:World} {ρ:Operand→Value} {dd:Option Tmp} {ty:TypeId} {ps:String} {af:Array Edge} {g:Option (Nat×Bool)} {e t:TypeId}
theorem kl {l:List (Nat×Operand)}{vss:List (List Value)}{z:Value}{by_ len sz:Nat}(ht:P.underlying t=some (.slice e))(hi:cN P e=some (some z,sz,by_))(hzs:z.cells.size=sz)
 (hl:l.map (·.1)=List.range' 0 vss.length) (hv:l.map (fun p=>ρ p.2)=vss.map fun vs=>Value.agg vs.toArray) (hn:len=vss.length) (hsm:len * sz≤16777216) (h1:∀vs∈vss,vs.length=sz) (h0:0<len * sz) :
 (execOp ρ ⟨dd,.buildSlice t len l.toArray,ty,ps,af,g⟩).run P w=.ok (.value (.slice (some ⟨w.heap.size,0,none⟩) len len)) (w.alloc (.cells vss.flatten.toArray e)):=by
 obtain⟨i,hi',hq⟩:=Option.map_eq_some_iff.1 hi;simp only[Prod.mk.injEq]at hq;obtain⟨hz,hsz,hb⟩:=hq;subst hn
 have hp:(l.map fun x=>(x.1,ρ x.2))=(List.range' 0 vss.length).zip (vss.map fun vs=>Value.agg vs.toArray):=by
  rw[←hl,←hv];clear hl hv h1 hsm h0
  induction l with
  | nil=>rfl
  | cons x l ih=>simp[ih]
 have hf:∀arr:Array Value,arr.size=vss.length * sz→Instr.fill (fun i=>some (i * sz,sz)) arr ((List.range' 0 vss.length).zip (vss.map fun vs=>Value.agg vs.toArray))=some vss.flatten.toArray:=fun arr ha=>by
  have:=yZ sz vss h1 0 [] arr.toList (by simp) (by simpa using ha);simpa using this
 have hfin:(Instr.buildSlice t vss.length ((List.range' 0 vss.length).zip (vss.map fun vs=>Value.agg vs.toArray)).toArray).run P w=.ok (.slice (some ⟨w.heap.size,0,none⟩) vss.length vss.length) (w.alloc (.cells vss.flatten.toArray e)):=by
  have hf':=hf ((Array.range (vss.length * sz)).map fun i=>z.cells[i % z.cells.size]!) (by simp)
  generalize hxs:((List.range' 0 vss.length).zip (vss.map fun vs=>Value.agg vs.toArray))=xs at hf'
  generalize hN:vss.length=N at *
  have hN0:¬(N * sz=0):=by omega
  have hN2:¬(16777216<N * sz):=by omega
  simp[Instr.buildSlice,run_underlying ht,sizeOf,typeInfo,zeroValue,hi',hsz,hz,hN2,newRow,newObj,Sem.run,go_sem];rw[if_neg hN0];simp only[Value.cells]at hf';rw[hf'];simp[Sem.run,go_sem]
 have he:(execOp ρ ⟨dd,.buildSlice t vss.length l.toArray,ty,ps,af,g⟩)=(Instr.buildSlice t vss.length ((List.range' 0 vss.length).zip (vss.map fun vs=>Value.agg vs.toArray)).toArray).bind fun r=>Sem.pure (Next.value r):=by
  have hm:(l.toArray.map fun (p:Nat×Operand)=>(p.1,ρ p.2))=((List.range' 0 vss.length).zip (vss.map fun vs=>Value.agg vs.toArray)).toArray:=by simp[←hp]
  show (Instr.buildSlice t vss.length (l.toArray.map fun (p:Nat×Operand)=>(p.1,ρ p.2))).bind (fun r=>Sem.pure (Next.value r))=_;rw[hm]
 rw[he,Sem.run_bind',hfin]
 rfl
end
section
variable {P:Program} {ops:Array Oper} {a:Act} {n:Nat} {E:Env} {w W:World} {rest:List Oper} {d:Nat} {Q:Exit→Act→World→Prop} {L:List As} {e t:TypeId} {ty:TypeId} {ps:String} {af:Array Edge}
theorem gH {l:List (Nat×Operand)}{vss:List (List Value)}{z:Value}{by_ len sz:Nat}(hA:Ag a n E ds)(hn:Nat.blt d n=true)(hv:lits E 0 l=some (vss.map fun vs=>Value.agg vs.toArray))(ht:P.underlying t=some (.slice e))(hi:cN P e=some (some z,sz,by_))(hzs:z.cells.size=sz)
 (hl:Nat.beq len vss.length=true) (hsm:Nat.ble (len * sz) 16777216=true) (h1:∀vs∈vss,vs.length=sz) (h0:Nat.blt 0 (len * sz)=true)
 (s:Sat W w L) (k:∀A w',Sat W w' (row e sz (.slice A len len) len vss.flatten::L)→∀a',Ag a' n ((d,.slice A len len)::E) ds→wpList P ops Q rest a' w'):wpList P ops Q (⟨some d,.buildSlice t len l.toArray,ty,ps,af,none⟩::rest) a w:=by
 have hl:=Nat.eq_of_beq_eq_true hl;have hsm:=Nat.le_of_ble_eq_true hsm;obtain⟨h3,h4,h5⟩:=nZ hv;have h5':l.length=vss.length:=by simpa using h5
 have h00:0<len * sz:=by
  have:=h0;simp[Nat.blt]at this;omega
 have hz0:0<sz:=by
  rcases Nat.eq_zero_or_pos sz with h | h
  ·
   rw[h]at h00;simp at h00
  ·
   exact h
 have hlz:len≤len * sz:=Nat.le_mul_of_pos_right _ hz0;refine uo hA rfl rfl hn (kl (vss:=vss) ht hi hzs (by rw[h4,h5']) ?_ hl hsm h1 h00) (k _ _ ?_)
 ·
  have:=hA.jN h3;rw[←this];simp
 ·
  refine (s.alloc _).imp fun h hb=>.inr ⟨_,len,[],(0,0),rfl,Nat.le_refl _,by omega,?_,?_,jD.zero _,by simp only[List.append_nil];exact hb⟩
  all_goals
   have:∀vss:List (List Value),(∀vs∈vss,vs.length=sz)→vss.flatten.length=vss.length * sz:=fun vss=>by
    induction vss with
    | nil=>simp
    | cons v vs ih=>intro h;simp[h v (by simp),ih fun x hx=>h x (List.mem_cons_of_mem _ hx),Nat.succ_mul];omega
   simp[this vss h1,hl]
end
end Go.Proofs.YtkjabaihpkbfhaaGreat.K
namespace Go.Proofs.YtkjabaihpkbfhaaGreat.K
open Go Go.RowKit
variable {ds:List Deferred}
section
variable {P:Program} {fn:Func} {R:Ending→World→Prop} {a:Act} {n:Nat} {E:Env} {w:World}
def o4 (tmps:Array Value):ResultVar→Sem Value
 | .tmp t=>pure (tmps.getD t undef)
 | .cell a t=>do loadVar t (←asAddr (tmps.getD a undef))
def jI (P:Program)(w:World)(tmps:Array Value)(r:ResultVar)(v:Value):Prop:=(o4 tmps r).run P w=.ok v w
theorem cf {t:Nat}{v:Value}(hA:Ag a n E ds)(hv:find t E=some v):jI P w a.tmps (.tmp t) v:=by
 have:=hA.at_ t v hv;simp[jI,o4,go_sem,Array.getD_eq_getD_getElem?,this]
theorem F5 {s t:Nat}{p:Addr}{v:Value}(hA:Ag a n E ds)(hv:find s E=some (.pointer (some p)))(ht:flat P t=true)(hc:w.cell? p=some v):jI P w a.tmps (.cell s t) v:=by
 have h:=il ht w;have:=hA.at_ s _ hv;simp[jI,o4,go_sem,Array.getD_eq_getD_getElem?,this,loadVar,h,load,Sem.run,hc]
theorem cy {s t:Nat}{p:Addr}{cs:List Value}(hA:Ag a n E ds)(hv:find s E=some (.pointer (some p)))(ht:ij P t=true)(hz:(P.info? t).map (·.size)=some cs.length)(hc:∀j u,cs[j]?=some u→w.cell? (p.add j)=some u):jI P w a.tmps (.cell s t) (.agg cs.toArray):=by
 obtain⟨i,hi,hiz⟩:=Option.map_eq_some_iff.1 hz;have h1:=iF ht w;have h2:=run_loadCellsFrom (P:=P) (w:=w) p cs 0 #[] (by simpa using hc);have:=hA.at_ s _ hv;simp[jI,o4,go_sem,Array.getD_eq_getD_getElem?,this,loadVar,h1,sizeOf,typeInfo,hi,hiz,loadCells,h2]
theorem jV (fn:Func)(tmps:Array Value):results fn tmps=(fn.results.mapM (o4 tmps)).bind fun vs=>Sem.pure (if h:vs.size=1 then vs[0] else .tuple vs):=by
 have:(fun r=>o4 tmps r)=fun (x:ResultVar)=>(match x with | .tmp t=>pure (tmps.getD t undef) | .cell a t=>do loadVar t (←asAddr (tmps.getD a undef)):Sem Value):=by
  funext r;cases r<;>rfl
 show _=(fn.results.mapM (fun r=>o4 tmps r)).bind _;rw[this]
 rfl
theorem Cj {f:ResultVar→Sem Value}{r:ResultVar}{v:Value}(h1:(f r).run P w=.ok v w):((#[r]:Array ResultVar).mapM f).run P w=.ok #[v] w:=by
 simp[go_sem,h1]
theorem D3 {f:ResultVar→Sem Value}{r s:ResultVar}{v x:Value}(h1:(f r).run P w=.ok v w)(h2:(f s).run P w=.ok x w):((#[r,s]:Array ResultVar).mapM f).run P w=.ok #[v,x] w:=by
 simp[go_sem,h1,h2]
theorem js {r:ResultVar}{v:Value}(hA:Ag a n E)(hr:fn.results=#[r])(hv:jI P w a.tmps r v)(h:R (.returned v) w):bodyPost P fn R .ret a w:=
 ⟨hA.defers,v,by rw[jV,hr,Sem.run_bind',Cj hv];rfl,h⟩
theorem cY {r s:ResultVar}{v x:Value}(hA:Ag a n E)(hr:fn.results=#[r,s])(hv:jI P w a.tmps r v)(hx:jI P w a.tmps s x)(h:R (.returned (.tuple #[v,x])) w):bodyPost P fn R .ret a w:=
 ⟨hA.defers,.tuple #[v,x],by rw[jV,hr,Sem.run_bind',D3 hv hx];rfl,h⟩
end
end Go.Proofs.YtkjabaihpkbfhaaGreat.K
namespace Go.Proofs.YtkjabaihpkbfhaaGreat.K
open Go Go.RowKit
variable {ds:List Deferred}
section
variable {P:Program} {w:World} {ρ:Operand→Value} {dd:Option Tmp} {ty:TypeId} {ps:String} {af:Array Edge} {g:Option (Nat×Bool)} {e t:TypeId} {x y:Operand}
theorem run_make {z:Value}{by_ n:Nat}(hx:ρ x=.int .i64 n)(hy:ρ y=.int .i64 n)(ht:P.underlying t=some (.slice e))(hi:cN P e=some (some z,1,by_))(hz:z.cells=#[z])(hn:by_ * n≤140737488355328)(hn2:n≤140737488355328) :
 (execOp ρ ⟨dd,.makeSlice t x y,ty,ps,af,g⟩).run P w=.ok (.value (.slice (some ⟨w.heap.size,0,none⟩) n n)) (w.alloc (.cells (List.replicate n z).toArray e)):=by
 obtain⟨i,hi',hq⟩:=Option.map_eq_some_iff.1 hi;simp only[Prod.mk.injEq]at hq;obtain⟨hz',hsz,hb⟩:=hq;have hw:IntKind.i64.wrap (n:Int)=n:=fG (by simp[IntKind.min,IntKind.signed,IntKind.bits];try omega) (by simp[IntKind.max,IntKind.signed,IntKind.bits];try omega)
 have h1:¬(281474976710656<(by_:Int) * (n:Int)):=by
  rw[show (by_:Int) * (n:Int)=((by_ * n:Nat):Int) from by simp];omega
 have h2:¬(n * by_ > roomBytes):=by rw[Nat.mul_comm];simp[roomBytes];omega
 have h3:¬((n:Int)<0):=by omega
 have hc:(if n * 1=0 then (#[]:Array Value) else #[z]).size=0∨True:=.inr trivial
 have harr:((Array.range n).map fun _=>z)=(List.replicate n z).toArray:=by
  apply Array.ext';simp[List.map_const']
 have hz2:(fun x:Nat=>z.cells[x % z.cells.size]!)=fun _=>z:=by
  funext x;rw[hz];simp[Nat.mod_one]
 have hN:∃N:Int,N=(n:Int):=⟨_,rfl⟩;obtain⟨N,hN⟩:=hN;have hNn:N.toNat=n:=by omega
 rw[←hN]at hx hy hw h1 h3;have h4:¬(n * by_ > 140737488355328):=by rw[Nat.mul_comm];omega
 simp[execOp,hx,hy,Instr.makeSlice,run_underlying ht,asInt,typeInfo,sizeOf,zeroValue,hi',hsz,hb,hz',hw,h1,h3,hNn,askRoom,roomBytes,newRow,newObj,Sem.run,go_sem]
 by_cases h0:n=0
 ·
  subst h0;simp[hNn,h3,h4,show N=0 from by omega]
  congr 2
  apply Array.ext';simp[Array.range]
 ·
  simp[h0,h3,h4,show ¬N≤0 from by omega,show ¬N<0 from by omega];show w.alloc (.cells (Array.map (fun x=>z.cells[x % z.cells.size]!) (Array.range n)) e)=_;rw[hz2,harr];simp
end
section
variable {P:Program} {ops:Array Oper} {a:Act} {n:Nat} {E:Env} {w W:World} {rest:List Oper} {d:Nat} {Q:Exit→Act→World→Prop} {L:List As} {e t:TypeId} {ty:TypeId} {ps:String} {af:Array Edge} {x y:Operand}
theorem GZ {z:Value}{by_ m:Nat}(hA:Ag a n E ds)(hn:Nat.blt d n=true)(hx:ez E x=some (.int .i64 m))(hy:ez E y=some (.int .i64 m))(ht:P.underlying t=some (.slice e))(hi:cN P e=some (some z,1,by_))(hz:z.cells=#[z])(h1:by_ * m≤140737488355328)(h2:m≤140737488355328)
 (s:Sat W w L) (k:∀b w',Sat W w' (aS b (.cells (List.replicate m z).toArray e)::L)→∀a',Ag a' n ((d,.slice (some ⟨b,0,none⟩) m m)::E) ds→wpList P ops Q rest a' w'):wpList P ops Q (⟨some d,.makeSlice t x y,ty,ps,af,none⟩::rest) a w:=
 uo hA rfl rfl hn (run_make (hA.ev hx) (hA.ev hy) ht hi hz h1 h2) (k _ _ (s.alloc _))
theorem Gr {b j:Nat}{p:Addr}{v u:Value}{cs:List Value}{t':TypeId}(hA:Ag a n E ds)(hx:ez E x=some (.pointer (some p)))(hp:p=⟨b,j,none⟩)(hy:ez E y=some v)(ht:flat P t=true)(h1:(P.info? t).map (·.size)=some 1)(hv:v.oneCell'=true)
 (s:Sat W w (aS b (.cells cs.toArray t' (0,0))::L)) (hj:cs[j]?=some u) (k:∀w',Sat W w' (aS b (.cells (cs.set j v).toArray t' (0,0))::L)→wpList P ops Q rest a w'):wpList P ops Q (⟨none,.store t x y,ty,ps,af,none⟩::rest) a w:=by
 subst hp;refine jQ hA hx hy ht h1 hv s (u:=u) (by rw[ln];simpa using hj) fun w' h=>k w' ?_;simpa using h
theorem Sat.Fs {b m:Nat}{cs:List Value}(s:Sat W w (aS b (.cells cs.toArray e (0,0))::L))(hl:cs.length=m)(hm:m≤9223372036854775807):Sat W w (row e 1 (.slice (some ⟨b,0,none⟩) m m) m cs::L):=
 s.imp fun h hb=>.inr ⟨b,m,[],(0,0),rfl,Nat.le_refl _,hm,by simpa using hl,by simpa using hl,jD.zero _,by simpa[aS]using hb⟩
end
end Go.Proofs.YtkjabaihpkbfhaaGreat.K
namespace Go.Proofs.YtkjabaihpkbfhaaGreat.K
open Go Go.RowKit
variable {ds:List Deferred}
def uv:Nat→List As→List As
 | 0,L=>L
 | _+1,[]=>[]
 | n + 1, A :: L => match uv n L with
   | []=>[A]
   | B::L'=>B::A::L'
theorem qq:∀(n:Nat) (L:List As),L.Perm (uv n L)
 | 0,L=>.refl _
 | n+1,[]=>.refl _
 | n + 1, A :: L => by
   have h:=qq n L;unfold uv;cases hq:uv n L with
   | nil=>rw[hq]at h;exact .cons A h
   | cons B L'=>rw[hq]at h;exact (List.Perm.cons A h).trans (.swap ..)
section
variable {W w w':World} {L M:List As}
theorem Sat.p (s:Sat W w L)(n:Nat):Sat W w (uv n L):=s.perm (qq n L)
theorem Sat.mW {W0 w1:World}{L0 M:List As}{b j:Nat}{cs:Array Value}{t:TypeId}{fr:Nat×Nat}{v:Value}(s0:Sat W0 w (aS b (.cells cs t fr)::L0))(s:Sat w w1 M)(h:nth cs.toList j=some v):w1.cell? ⟨b,j,none⟩=some v:=by
 have hc:=s0.cell (j:=j) h;rw[s.below.cell (World.block_lt_of_cell? _ _ hc)];exact hc
theorem holds.take:∀ {M L:List As} {h:Hp},holds (M++L) h→holds M h
 | [],_,_,_=>trivial
 | _::_,_,_,⟨h1,h2,a,s1,s2,x,y⟩=>⟨h1,h2,a,s1,s2,x,y.take⟩
theorem Sat.cA (s:Sat W w (M++L))(M':List As)(e:M=M':=by rfl):Sat W w M':=by
 subst e;exact⟨s.below,let ⟨h,x,y⟩:=s.own;⟨h,x.take,y⟩⟩
def kx (W:World)(L:List As)(w:World):Prop:=∃M,Sat W w (M++L)
theorem kx.sat (h:kx W L w):Sat W w L:=let ⟨_,hM⟩:=h;hM.a8
variable {P:Program} {Q:Exit→Act→World→Prop} {a:Act}
theorem aE {c:Code}{n:Nat}(h:c.wp P (Exit.then (Code.rounds P c Q n) Q) a w):Code.rounds P c Q (n+1) a w:=h
theorem ml {sz n c k:Nat}{p:Addr}{cs:List Value}{u:Value}(hR:Rd w sz (.slice (some p) n c) n cs)(h:cs[k]?=some u):w.cell? (p.add k)=some u:=hR.cell h
theorem bS {sz n c k j:Nat}{p:Addr}{cs:List Value}{u:Value}(hR:Rd w sz (.slice (some p) n c) n cs)(h:cs[k+j]?=some u):w.cell? ((p.add k).add j)=some u:=by
 rw[add_add];exact hR.cell h
theorem ey {α:Type}{f:α→Value}{xs:List α}{i:Nat}{x:α}(h:xs[i]?=some x):(xs.map f)[i * 1]?=some (f x):=by
 rw[Nat.mul_one,List.getElem?_map,h];rfl
theorem Sat.setRow {e sz n c k:Nat}{p:Addr}{cs:List Value}(s:Sat W w (row e sz (.slice (some p) n c) n cs::L))(hk:k<cs.length)(v:Value) :
 Sat W (w.setCell (p.add k) v) (row e sz (.slice (some p) n c) n (cs.set k v)::L)∧w.cell? (p.add k)=cs[k]?∧w.frozen? (p.add k)=false:=by
 obtain⟨bl,h,⟨h1,h2,a,s1,s2,q,r⟩,t'⟩:=s;rcases q with ⟨hv,_⟩ | ⟨b,cap,sp,fr,hv,hn,hcap,hl,hl2,hfr,hb⟩
 ·
  cases hv
 ·
  injection hv with e1 e2 e3
  injection e1 with e1
  subst e1 e3;have S:Sat W w (aS b (.cells (cs++sp).toArray e fr)::L):=⟨bl,h,⟨h1,h2,a,s1,s2,hb,r⟩,t'⟩;rw[add_lit,Nat.zero_add];have hk2:k<c * sz:=by rw[←hl2];simp;omega
  refine⟨?_,?_,S.tv hfr hk2⟩
  ·
   have:=S.store (j:=k) v;refine this.imp fun h hh=>.inr ⟨b,c,sp,fr,rfl,hn,hcap,by simpa using hl,by simpa using hl2,hfr,?_⟩
   rw[show h b=_ from hh]
   congr 2
   rw[List.setIfInBounds_toArray,List.set_append_left _ _ hk]
  ·
   rw[S.pa (v:=cs[k]) (by simp[List.getElem?_append_left hk])];simp[hk]
end
section
variable {P:Program} {ops:Array Oper} {Q:Exit→Act→World→Prop} {a:Act} {n:Nat} {E:Env} {w w' W:World} {rest:List Oper} {d:Nat}
variable {ty t tx e:TypeId} {ps:String} {af:Array Edge} {x y:Operand} {L:List As}
theorem AR {ρ:Operand→Value}{dd:Option Tmp}{g:Option (Nat×Bool)}{m c sz k:Nat}{p q:Addr}{v:Value}{cs:List Value}(hx:ρ x=.pointer (some q))(hp:q=p.add k)(hy:ρ y=v)(ht:flat P t=true)(h1:(P.info? t).map (·.size)=some 1)(hv:v.oneCell'=true)
 (s:Sat W w (row e sz (.slice (some p) m c) m cs::L)) (hk:k<cs.length):(execOp ρ ⟨dd,.store t x y,ty,ps,af,g⟩).run P w=.ok .skip (w.setCell (p.add k) v):=by
 subst hp;obtain⟨_,h2,h3⟩:=s.setRow hk v;exact pI hx hy ht h1 hv (h2.trans (List.getElem?_eq_getElem hk)) h3
theorem Gx {m c sz:Nat}(k:Nat){p q:Addr}{v:Value}{cs:List Value}(hA:Ag a n E ds)(hx:ez E x=some (.pointer (some q)))(hp:q=p.add k)(hy:ez E y=some v)(ht:flat P t=true)(h1:(P.info? t).map (·.size)=some 1)(hv:v.oneCell'=true)
 (s:Sat W w (row e sz (.slice (some p) m c) m cs::L)) (hk:k<cs.length) (kk:∀w',Sat W w' (row e sz (.slice (some p) m c) m (cs.set k v)::L)→wpList P ops Q rest a w'):wpList P ops Q (⟨none,.store t x y,ty,ps,af,none⟩::rest) a w:=
 DE hA rfl rfl (AR (hA.ev hx) hp (hA.ev hy) ht h1 hv s hk) (kk _ (s.setRow hk v).1)
end
section
variable {P:Program} {w:World} {ρ:Operand→Value} {d:Option Tmp} {ty:TypeId} {ps:String} {af:Array Edge} {g:Option (Nat×Bool)}
variable {t yt s:TypeId} {x y:Operand} {a b:Int} {k k':IntKind}
theorem tB {u:TypeDesc}(hs:P.underlying s=some u)(ht:P.underlying t=some (.int k')):(convert s t (.int k a)).run P w=.ok (.int k' (k'.wrap a)) w:=by
 unfold convert;rw[Sem.run_bind,run_underlying hs];simp only[Result.andThen_ok];rw[Sem.run_bind,run_underlying ht];simp only[Result.andThen_ok];cases u<;>rfl
theorem dm {u:TypeDesc}(hx:ρ x=.int k a)(hs:P.underlying s=some u)(ht:P.underlying t=some (.int k')):(execOp ρ ⟨d,.convert s t x,ty,ps,af,g⟩).run P w=.ok (.value (.int k' (k'.wrap a))) w:=by
 simp[execOp,hx,tB hs ht,go_sem]
theorem qH {u:TypeDesc}(hx:ρ x=.int k a)(hs:P.underlying s=some u)(ht:P.underlying t=some (.int k'))(h0:k'.min≤a)(h1:a≤k'.max):(execOp ρ ⟨d,.convert s t x,ty,ps,af,g⟩).run P w=.ok (.value (.int k' a)) w:=by
 rw[dm hx hs ht,fG h0 h1]
theorem CX (hx:ρ x=.int k a)(hy:ρ y=.int k' b)(h0:0≤b):(execOp ρ ⟨d,.binOp .shl t x y yt,ty,ps,af,g⟩).run P w=.ok (.value (.int k (k.wrap (a * 2 ^ (min b.toNat k.bits))))) w:=by
 have:¬b<0:=by omega
 simp[execOp,hx,hy,eqGuard,binOp,Op.shift,this,go_sem]
theorem gI (hx:ρ x=.int k a)(hy:ρ y=.int k' b)(h0:0≤b):(execOp ρ ⟨d,.binOp .shr t x y yt,ty,ps,af,g⟩).run P w=.ok (.value (.int k (a.fdiv (2 ^ (min b.toNat k.bits))))) w:=by
 have:¬b<0:=by omega
 simp[execOp,hx,hy,eqGuard,binOp,Op.shift,this,go_sem]
theorem Fx (hx:ρ x=.int k a)(hy:ρ y=.int k b):(execOp ρ ⟨d,.binOp .and t x y yt,ty,ps,af,g⟩).run P w=.ok (.value (.int k (k.wrap (BitVec.ofInt k.bits a &&& BitVec.ofInt k.bits b).toNat))) w:=by
 simp[execOp,hx,hy,eqGuard,binOp,Op.intBits,go_sem]
theorem Gi (hx:ρ x=.int k a)(hy:ρ y=.int k b):(execOp ρ ⟨d,.binOp .or t x y yt,ty,ps,af,g⟩).run P w=.ok (.value (.int k (k.wrap (BitVec.ofInt k.bits a ||| BitVec.ofInt k.bits b).toNat))) w:=by
 simp[execOp,hx,hy,eqGuard,binOp,Op.intBits,go_sem]
theorem xb (hx:ρ x=.int .i64 a)(hy:ρ y=.int .i64 b)(hb:0<b)(h0:0≤a)(h1:a≤9223372036854775807):(execOp ρ ⟨d,.binOp .quo t x y yt,ty,ps,af,g⟩).run P w=.ok (.value (.int .i64 (a / b))) w:=by
 have e:a.tdiv b=a / b:=Int.tdiv_eq_ediv_of_nonneg h0;have h2:0≤a / b:=Int.ediv_nonneg h0 (by omega);have h3:a / b≤a:=Int.ediv_le_self _ h0;rw[Fk hx hy (by omega),e,fG (by simp[IntKind.min,IntKind.signed,IntKind.bits];omega) (by simp[IntKind.max,IntKind.signed,IntKind.bits];omega)]
theorem BU (hx:ρ x=.int .i64 a)(hy:ρ y=.int .i64 b)(hb:0<b)(h0:0≤a):(execOp ρ ⟨d,.binOp .rem t x y yt,ty,ps,af,g⟩).run P w=.ok (.value (.int .i64 (a % b))) w:=by
 rw[D2 hx hy (by omega),Int.tmod_eq_emod_of_nonneg h0]
end
section
variable {P:Program} {w:World} {ρ:Operand→Value} {d:Option Tmp} {ty:TypeId} {ps:String} {af:Array Edge} {g:Option (Nat×Bool)}
theorem ak {x:Operand}{vs:List Value}{i:Nat}{v:Value}(hx:ρ x=.tuple vs.toArray)(hi:nth vs i=some v):(execOp ρ ⟨d,.extract x i,ty,ps,af,g⟩).run P w=.ok (.value v) w:=
 y9 hx (by rw[ln]at hi;simpa using hi)
end
section
variable {P:Program} {w:World} {ρ:Operand→Value} {d:Option Tmp} {ty t e:TypeId} {ps:String} {af:Array Edge} {g:Option (Nat×Bool)} {x y:Operand}
theorem bI {b j len sz:Nat}{k:IntKind}{i:Int}(hx:ρ x=.pointer (some ⟨b,j,none⟩))(hy:ρ y=.int k i)(ht:P.underlying t=some (.array len e))(hz:(P.info? e).map (·.size)=some sz)(h0:0≤i)(h1:i<len) :
 (execOp ρ ⟨d,.indexAddr t x y,ty,ps,af,g⟩).run P w=.ok (.value (.pointer (some ⟨b,j+i.toNat * sz,none⟩))) w:=by
 obtain⟨q,hq,rfl⟩:=Option.map_eq_some_iff.1 hz;simp[execOp,hx,hy,Instr.indexAt,run_underlying ht,asIntOf,Instr.sureAddr,sizeOf,typeInfo,hq,h0,h1,go_sem]
end
section
variable {P:Program} {ops:Array Oper} {Q:Exit→Act→World→Prop} {a:Act} {n:Nat} {E:Env} {w w' W:World} {rest:List Oper}
variable {ty t:TypeId} {ps:String} {af:Array Edge} {x y:Operand} {L:List As}
theorem jR {b j:Nat}{v u:Value}{cs cs':List Value}{t':TypeId}(hA:Ag a n E ds)(hx:ez E x=some (.pointer (some ⟨b,j,none⟩)))(hy:ez E y=some v)(ht:flat P t=true)(h1:(P.info? t).map (·.size)=some 1)(hv:v.oneCell'=true)
 (s:Sat W w (aS b (.cells cs.toArray t' (0,0))::L)) (hj:nth cs j=some u) (hc:cs.set j v=cs') (k:∀w',Sat W w' (aS b (.cells cs'.toArray t' (0,0))::L)→wpList P ops Q rest a w'):wpList P ops Q (⟨none,.store t x y,ty,ps,af,none⟩::rest) a w:=by
 subst hc;refine jQ hA hx hy ht h1 hv s (u:=u) (by simpa using hj) fun w' h=>k w' ?_;simpa using h
theorem Ez {i:Nat}{K:Act→World→Prop}{b j:Nat}{v u:Value}{cs cs':List Value}{t':TypeId}(hA:Ag a n E ds)(hi':ops[i]?=some ⟨none,.store t x y,ty,ps,af,none⟩)(hx:ez E x=some (.pointer (some ⟨b,j,none⟩)))(hy:ez E y=some v)(ht:flat P t=true)(h1:(P.info? t).map (·.size)=some 1)(hv:v.oneCell'=true)
 (s:Sat W w (aS b (.cells cs.toArray t' (0,0))::L)) (hj:nth cs j=some u) (hc:cs.set j v=cs') (k:∀w',Sat W w' (aS b (.cells cs'.toArray t' (0,0))::L)→K a w'):wpOp P ops Q i K a w:=by
 subst hc;refine eW hA hi' hx hy ht h1 hv s (u:=u) (by simpa using hj) fun w' h=>k w' ?_;simpa using h
theorem E4 {b o:Nat}{vs cs cs':List Value}{t':TypeId}(hA:Ag a n E ds)(hx:ez E x=some (.pointer (some ⟨b,o,none⟩)))(hy:ez E y=some (.agg vs.toArray))(h1:(P.info? t).map (·.size)=some vs.length)(hv:∀v∈vs,v.oneCell'=true)
 (s:Sat W w (aS b (.cells cs.toArray t' (0,0))::L)) (hl:Nat.ble (o+vs.length) cs.length=true) (hc:cs.take o++vs++cs.drop (o+vs.length)=cs')
 (k:∀w',Sat W w' (aS b (.cells cs'.toArray t' (0,0))::L)→wpList P ops Q rest a w'):wpList P ops Q (⟨none,.store t x y,ty,ps,af,none⟩::rest) a w:=by
 subst hc;exact Fy hA hx hy h1 hv s (Nat.le_of_ble_eq_true hl) k
theorem cK {i:Nat}{K:Act→World→Prop}{b o:Nat}{vs cs cs':List Value}{t':TypeId}(hA:Ag a n E ds)(hi':ops[i]?=some ⟨none,.store t x y,ty,ps,af,none⟩)(hx:ez E x=some (.pointer (some ⟨b,o,none⟩)))(hy:ez E y=some (.agg vs.toArray))(h1:(P.info? t).map (·.size)=some vs.length)(hv:∀v∈vs,v.oneCell'=true)
 (s:Sat W w (aS b (.cells cs.toArray t' (0,0))::L)) (hl:Nat.ble (o+vs.length) cs.length=true) (hc:cs.take o++vs++cs.drop (o+vs.length)=cs')
 (k:∀w',Sat W w' (aS b (.cells cs'.toArray t' (0,0))::L)→K a w'):wpOp P ops Q i K a w:=by
 subst hc;exact GY hA hi' hx hy h1 hv s (Nat.le_of_ble_eq_true hl) k
end
def ao (b:UInt8):Value:=.int .u8 (b.toNat:Int)
def b8 (x:Int):UInt8:=UInt8.ofNat x.toNat
theorem C7 {x:Int}(h0:0≤x)(h1:x≤255):((b8 x).toNat:Int)=x:=by
 unfold b8;simp[UInt8.toNat_ofNat'];omega
theorem AP {x:Int}(h0:0≤x)(h1:x≤255):Value.int .u8 x=ao (b8 x):=by unfold ao;rw[C7 h0 h1]
theorem ri (bs:List UInt8):∀u∈bs.map ao,u.oneCell'=true:=fun u hu=>by
 obtain⟨b,_,rfl⟩:=List.mem_map.1 hu;rfl
theorem sW (s:ByteArray):byteCells s=s.data.toList.map ao:=rfl
theorem w6 {s t:ByteArray}(h:s.data.toList=t.data.toList):s=t:=by
 cases s;cases t;simp at h;simp[h]
section
variable {P:Program} {w:World} {ρ:Operand→Value} {d:Option Tmp} {ty:TypeId} {ps:String} {af:Array Edge} {g:Option (Nat×Bool)}
variable {t yt s:TypeId} {x y:Operand} {bs:List UInt8} {n:Nat} {v:Value}
theorem AM {src e:TypeId}(hx:ρ x=v)(hs:P.underlying src=some (.slice e))(he:P.underlying e=some (.int .u8))(ht:P.underlying t=some .string)(hR:Rd w 1 v n (bs.map ao)) :
 (execOp ρ ⟨d,.convert src t x,ty,ps,af,g⟩).run P w=.ok (.value (.string ⟨bs.toArray⟩)) w:=by
 have hstr:strOfNums (bs.map fun b=>(b.toNat:Int))=⟨bs.toArray⟩:=by
  simp only[strOfNums,List.map_map]
  congr 1
  rw[show ((fun n:Int=>UInt8.ofNat n.toNat) ∘ fun b:UInt8=>(b.toNat:Int))=id from by funext b;simp];simp
 have hrun:(convert src t v).run P w=.ok (.string ⟨bs.toArray⟩) w:=by
  obtain⟨A,c,hv,hc,hl,h⟩:=hR;subst hv;simp only[List.length_map,Nat.mul_one]at hl
  have nilcase:∀l,n=0→(convert src t (.slice (some l) n c)).run P w=.ok (.string ⟨bs.toArray⟩) w:=fun l h0=>by
   have hb0:bs=[]:=List.eq_nil_of_length_eq_zero (by omega);subst hb0 h0;rw[run_convert_bytes_string w src t e _ 0 c hs he ht]
   have hlc:(loadCells l 0).run P w=.ok ([]:List Value).toArray w:=by
    have:=run_loadCells_list (P:=P) w l [] (fun j u hj=>by simp at hj);simpa using this
   rw[run_bytesToString w l 0 c [] (by simpa using hlc)]
   rfl
  cases A with
  | none =>
    have h0:n=0:=by
     rcases h with h | ⟨p,hp,_⟩
     ·
      exact h
     ·
      cases hp
    subst h0;obtain rfl:bs=[]:=List.eq_nil_of_length_eq_zero hl;exact run_convert_bytes_nil w src e hs he 0 c t ht
  | some l =>
    rcases h with h0 | ⟨p,hp,hh⟩
    ·
     exact nilcase l h0
    ·
     injection hp with hp
     subst hp
     have hlc:(loadCells l n).run P w=.ok (bs.map ao).toArray w:=by
      have:=run_loadCells_list (P:=P) w l (bs.map ao) hh;simpa[hl]using this
     rw[run_convert_bytes_string w src t e _ n c hs he ht,run_bytesToString w l n c (bs.map fun b=>(b.toNat:Int)) (by rw[hlc];simp[ao,Function.comp_def]),foldl_push_bytes,←hstr];simp[strOfNums,ByteArray.empty,ByteArray.emptyWithCapacity]
     rfl
 simp[execOp,hx,hrun,go_sem]
theorem kI {a b:ByteArray}(hx:ρ x=.string a)(hy:ρ y=.string b):(execOp ρ ⟨d,.binOp .eql t x y yt,ty,ps,af,g⟩).run P w=.ok (.value (.bool (decide (a=b)))) w:=by
 rw[FJ hx hy]
 congr 3
 rw[Bool.eq_iff_iff];simp only[beq_iff_eq,decide_eq_true_eq];exact⟨fun h=>w6 (by simpa[ByteArray.toList_eq]using h),fun h=>by rw[h]⟩
theorem zA {a b:ByteArray}(hx:ρ x=.string a)(hy:ρ y=.string b):(execOp ρ ⟨d,.binOp .neq t x y yt,ty,ps,af,g⟩).run P w=.ok (.value (.bool (decide (a≠b)))) w:=by
 rw[Ef hx hy]
 congr 3
 rw[Bool.eq_iff_iff];simp only[Bool.not_eq_true',decide_eq_true_eq,ne_eq,beq_eq_false_iff_ne];exact⟨fun h h'=>h (by rw[h']),fun h h'=>h (w6 (by simpa[ByteArray.toList_eq]using h'))⟩
end
end Go.Proofs.YtkjabaihpkbfhaaGreat.K
namespace Go.Proofs.YtkjabaihpkbfhaaGreat.K
open Go Go.RowKit
def oZ (P:Program)(t:TypeId)(cs:List Value)(off:Nat):Option Value:=
 match ij P t,flat P t with
 | true,_=>(P.info? t).map fun i=>.agg ((cs.drop off).take i.size).toArray
 | _,true=>nth cs off
 | _,_=>none
def y4 (P:Program)(ev:TypeId→Value→Value→Option Bool):List Field→List Value→List Value→Option Bool
 | [],_,_=>some true
 | [f], xs, ys => match decide (f.name = "_"), oZ P f.type xs f.offset, oZ P f.type ys f.offset with
   | false,some a,some b=>ev f.type a b
   | _,_,_=>none
 | f :: g :: l, xs, ys => match decide (f.name = "_"), oZ P f.type xs f.offset, oZ P f.type ys f.offset with
   | false, some a, some b => match ev f.type a b, y4 P ev (g :: l) xs ys with
     | some r,some q=>some (r && q)
     | _,_=>none
   | _,_,_=>none
def eqv (P:Program):Nat→TypeId→Value→Value→Option Bool
 | 0,_,_,_=>none
 | d + 1, t, x, y => match P.underlying t, x, y with
   | some .bool,.bool a,.bool b=>some (a == b)
   | some (.int _),.int k a,.int k' b=>if k=k' then some (a == b) else none
   | some .string,.string a,.string b=>some (a == b)
   | some (.struct fs), .agg xs, .agg ys => match P.stoodInHeld t with
     | true=>none
     | false=>y4 P (eqv P d) fs.toList xs.toList ys.toList
   | _,_,_=>none
theorem wZ (a b:ByteArray):(a == b)=true↔a=b:=by
 cases a with | mk x=>
 cases b with | mk y=>
 have h:((⟨x⟩:ByteArray) == ⟨y⟩)=(x == y):=rfl;rw[h,beq_iff_eq];exact⟨fun h=>by rw[h],fun h=>by injection h⟩
section
variable {P:Program} {w:World}
theorem uK {t off:Nat}{cs:Array Value}{v:Value}(h:oZ P t cs.toList off=some v):(part t cs off).run P w=.ok v w:=by
 unfold oZ at h;cases ha:ij P t with
 | true =>
   rw[ha]at h;obtain⟨i,hi,rfl⟩:=Option.map_eq_some_iff.1 h;have h1:=iF ha w
   have he:cs.extract off (off+i.size)=((cs.toList.drop off).take i.size).toArray:=by
    apply Array.ext';simp[List.drop_take]
   simp[part,h1,sizeOf,typeInfo,hi,go_sem,he]
 | false =>
   rw[ha]at h;cases hf:flat P t with
   | false=>rw[hf]at h;cases h
   | true =>
     rw[hf]at h;have h1:=il hf w;have h:nth cs.toList off=some v:=h;rw[ln]at h;simp at h;simp[part,h1,h,go_sem]
theorem BZ:∀(d:Nat) (t:TypeId) (x y:Value) (r:Bool),eqv P d t x y=some r→∀D,d≤D→(Op.equalIn D t x y).run P w=.ok r w:=by
 intro d
 induction d with
 | zero=>intro t x y r h;simp[eqv]at h
 | succ d ih =>
   have hfs:∀(D:Nat),d≤D→∀(fs:List Field) (xs ys:Array Value) (r:Bool),y4 P (eqv P d) fs xs.toList ys.toList=some r→(Op.eqFields D xs ys fs).run P w=.ok r w:=by
    intro D hD fs
    induction fs with
    | nil=>intro xs ys r h;simp[y4]at h;subst h;simp[Op.eqFields]
    | cons f l ihl =>
      intro xs ys r h
      have key:∀a b q,decide (f.name= "_")=false→oZ P f.type xs.toList f.offset=some a→oZ P f.type ys.toList f.offset=some b→eqv P d f.type a b=some q→∀s,(Op.eqFields D xs ys l).run P w=.ok s w→(Op.eqFields D xs ys (f::l)).run P w=.ok (q && s) w:=by
       intro a b q hn ha hb he s hs;have hn':f.name≠ "_":=by simpa using hn
       rw[Op.eqFields];simp only[if_pos hn',Sem.run_bind,uK (w:=w) ha,uK (w:=w) hb,ih _ _ _ _ he D hD,Result.andThen_ok];cases q
       ·
        simp
       ·
        simpa using hs
      cases l with
      | nil =>
        unfold y4 at h
        split at h
        ·
         rename_i a b hn ha hb;have:=key a b r hn ha hb h true (by simp[Op.eqFields]);rwa[Bool.and_true]at this
        ·
         cases h
      | cons g l =>
        unfold y4 at h
        split at h
        ·
         rename_i a b hn ha hb
         split at h
         ·
          rename_i q s he hs;simp at h;subst h;exact key a b q hn ha hb he s (ihl xs ys s hs)
         ·
          cases h
        ·
         cases h
   intro t x y r h D hD;obtain⟨D,rfl⟩:∃k,D=k+1:=⟨D-1,by omega⟩;unfold eqv at h
   split at h
   ·
    rename_i hu;simp at h;subst h;unfold Op.equalIn;simp[run_underlying hu,go_sem]
   ·
    rename_i hu
    split at h
    ·
     rename_i hk;simp at h;subst h hk;unfold Op.equalIn;simp[run_underlying hu,go_sem]
    ·
     cases h
   ·
    rename_i hu;simp at h;subst h;unfold Op.equalIn;simp[run_underlying hu,go_sem]
   ·
    rename_i fs xs ys hu
    split at h
    ·
     cases h
    ·
     rename_i hst;have hf:P.fieldsOf t=fs:=by simp[Program.fieldsOf,hu]
     rw[run_equalIn_struct (P:=P) w D t xs ys (by rw[hf];exact hu) hst,hf];exact hfs D (by omega) _ _ _ _ h
   ·
    cases h
variable {ρ:Operand→Value} {d:Option Tmp} {ty:TypeId} {ps:String} {af:Array Edge} {g:Option (Nat×Bool)} {t yt:TypeId} {x y:Operand} {a b:List Value} {c:Prop} [Decidable c]
theorem tU (hx:ρ x=.agg a.toArray)(hy:ρ y=.agg b.toArray)(hg:P.eqGuardType P.depth t=false)(h:eqv P 20 t (.agg a.toArray) (.agg b.toArray)=some (decide c)):(execOp ρ ⟨d,.binOp .neq t x y yt,ty,ps,af,g⟩).run P w=.ok (.value (.bool (decide (¬c)))) w:=by
 have:=BZ (w:=w) 20 t _ _ _ h Op.maxDepth (by decide);simp[execOp,hx,hy,eqGuard,binOp,Op.equal,this,hg,go_sem]
end
end Go.Proofs.YtkjabaihpkbfhaaGreat.K
namespace Go.Proofs.YtkjabaihpkbfhaaGreat.K
open Go Go.RowKit
variable {ds:List Deferred}
section
variable {P:Program} {W w:World} {L:List As}
theorem add_zero' (p:Addr):p.add 0=p:=by unfold Addr.add;simp
theorem y3 (A:Option Addr)(c sz:Nat):gR A c sz 0=A:=by
 unfold gR
 split
 ·
  rfl
 ·
  cases A with
  | none=>rfl
  | some p=>simp[add_zero']
theorem iS {b:Nat}{t:TypeId}{fr:Nat×Nat}:∀(news:List Value) (i o:Nat) (olds rest:List Value) (W:World) (L:List As) (w:World),jD fr (olds++rest).length→olds.length=o+i→news.length≤rest.length→(∀v∈news,v.oneCell'=true)→Sat W w (aS b (.cells (olds++rest).toArray t fr)::L)→
 ∃w',(storeCells ⟨b,o,none⟩ news i).run P w=.ok () w'∧Sat W w' (aS b (.cells (olds++news++rest.drop news.length).toArray t fr)::L)
 | [],i,o,olds,rest,W,L,w,_,_,_,_,s=>⟨w,by simp[storeCells,go_sem],by simpa using s⟩
 | v :: news, i, o, olds, rest, W, L, w, hf, ho, hl, h1, s => by
   cases rest with
   | nil=>simp at hl
   | cons x rest =>
     have hcell:w.cell? ⟨b,o+i,none⟩=some x:=s.pa (by simp[←ho]);have hfree:w.frozen? ⟨b,o+i,none⟩=false:=s.tv hf (by simp;omega);have s1:=s.store (j:=o+i) v
     have he:(olds++x::rest).toArray.setIfInBounds (o+i) v=(olds++[v]++rest).toArray:=by
      rw[List.setIfInBounds_toArray,List.set_append_right _ _ (by omega),ho];simp
     rw[he]at s1;obtain⟨w',hr,s'⟩:=iS news (i+1) o (olds++[v]) rest W L _ (by simpa using hf) (by simp;omega) (by simpa using hl) (fun u hu=>h1 u (List.mem_cons_of_mem _ hu)) s1;refine⟨w',?_,by simpa using s'⟩;have hv:=h1 v (by simp)
     have hst:(store (⟨b,o+i,none⟩:Addr) v).run P w=.ok () (w.setCell ⟨b,o+i,none⟩ v):=by
      cases v<;>simp[Value.oneCell']at hv<;>simp[store,Sem.run,hcell,hfree,go_sem]
     rw[storeCells,add_lit];simp only[Sem.run_bind,hst,Result.andThen_ok,hr]
theorem mw {e sz n c k:Nat}{p:Addr}{cs news:List Value}(s:Sat W w (row e sz (.slice (some p) n c) n cs::L))(hk:k+news.length≤cs.length)(h1:∀v∈news,v.oneCell'=true) :
 ∃w',(storeCells (p.add k) news 0).run P w=.ok () w'∧Sat W w' (row e sz (.slice (some p) n c) n (cs.take k++news++cs.drop (k+news.length))::L):=by
 obtain⟨bl,h,⟨h1',h2,a,s1,s2,q,r⟩,t'⟩:=s;rcases q with ⟨hv,_⟩ | ⟨b,cap,sp,fr,hv,hn,hcap,hl,hl2,hfr,hb⟩
 ·
  cases hv
 ·
  injection hv with e1 e2 e3
  injection e1 with e1
  subst e1 e3
  have S:Sat W w (aS b (.cells (cs.take k++(cs.drop k++sp)).toArray e fr)::L):=by
   rw[←List.append_assoc,List.take_append_drop];exact⟨bl,h,⟨h1',h2,a,s1,s2,hb,r⟩,t'⟩
  rw[add_lit,Nat.zero_add];obtain⟨w',hr,s'⟩:=iS (P:=P) news 0 k (cs.take k) (cs.drop k++sp) W L w (by rw[←List.append_assoc,List.take_append_drop,hl2];exact hfr) (by simp;omega) (by simp;omega) h1 S;refine⟨w',hr,s'.imp fun h hh=>.inr ⟨b,c,sp,fr,rfl,hn,hcap,?_,?_,hfr,?_⟩⟩
  ·
   simp;omega
  ·
   simp at hl2 ⊢;omega
  ·
   rw[show h b=_ from hh]
   congr 2
   rw[List.drop_append_of_le_length (by simp;omega),List.drop_drop];simp[Nat.add_comm]
end
end Go.Proofs.YtkjabaihpkbfhaaGreat.K
namespace Go.Proofs.YtkjabaihpkbfhaaGreat.K
open Go Go.RowKit
variable {ds:List Deferred}
def rY (ops:Array Oper):Nat→Nat→Nat→Bool
 | 0,_,_=>false
 | f + 1, j, i => match ops[j]? with
   | some o=>o.after.any fun e=>Region.binds .any e && (Nat.beq e.on i || rY ops f e.on i)
   | none=>false
def nS (ops:Array Oper)(l:Array Bool):Bool:=
 (List.range ops.size).all fun k=>!(l.getD k false) || (match ops[k]? with
  | some o=>o.after.all fun e=>!(Region.binds .any e) || l.getD e.on false
  | none=>true)
def oP (ops:Array Oper)(l:Array Bool):Prop:=∀(k:Nat) (o:Oper),ops[k]?=some o→l.getD k false=true→∀e∈o.after,Region.binds .any e=true→l.getD e.on false=true
theorem yf {ops:Array Oper}{l:Array Bool}(h:nS ops l=true):oP ops l:=fun k o ho hk e he hb=>by
 have hlt:k<ops.size:=(Array.getElem?_eq_some_iff.1 ho).1;have:=List.all_eq_true.1 h k (by simpa using hlt);rw[ho,hk]at this;simp only[Bool.not_true,Bool.false_or]at this;have:=Array.all_eq_true'.1 this e he;rw[hb]at this;simpa using this
section
variable {ops:Array Oper} {l:Array Bool}
theorem qW (hc:oP ops l):∀(f j i:Nat),rY ops f j i=true→l.getD j false=true→l.getD i false=true
 | 0,_,_,h,_=>by cases h
 | f + 1, j, i, h, hj => by
   unfold rY at h;cases ho:ops[j]? with
   | none=>rw[ho]at h;cases h
   | some o =>
     rw[ho]at h;obtain⟨e,he,hh⟩:=Array.any_eq_true'.1 h;simp only[Bool.and_eq_true,Bool.or_eq_true]at hh;have:=hc j o ho hj e he hh.1;rcases hh.2 with h1 | h1
     ·
      rw[←Nat.eq_of_beq_eq_true h1];exact this
     ·
      exact qW hc f e.on i h1 this
theorem yz (hc:oP ops l){f j i:Nat}(h:rY ops f j i=true)(hr:j∈Region.ready .any ops l):l.getD i false=true:=by
 cases f with
 | zero=>cases h
 | succ f =>
   obtain⟨_,o,ho,hall⟩:=mem_ready.1 hr;unfold rY at h;rw[ho]at h;obtain⟨e,he,hh⟩:=Array.any_eq_true'.1 h;simp only[Bool.and_eq_true,Bool.or_eq_true]at hh;have:=hall e he hh.1;rcases hh.2 with h1 | h1
   ·
    rw[←Nat.eq_of_beq_eq_true h1];exact this
   ·
    exact qW hc f e.on i h1 this
theorem uz (hc:oP ops l){j:Nat}(hr:j∈Region.ready .any ops l):oP ops (l.setIfInBounds j true):=fun k o ho hk e he hb=>by
 by_cases hkj:k=j
 ·
  subst hkj;obtain⟨_,o',ho',hall⟩:=mem_ready.1 hr;rw[ho]at ho';cases ho';exact getD_set_true (hall e he hb)
 ·
  rw[getD_set_ne false (Ne.symm hkj)]at hk;exact getD_set_true (hc k o ho hk e he hb)
variable {P:Program} {Q:Exit→Act→World→Prop} {S:World→Prop} {X:List Nat}
def aT (P:Program)(ops:Array Oper)(Q:Exit→Act→World→Prop)(S:World→Prop)(X:List Nat):Nat→Array Bool→Act→World→Prop
 | 0,listed,a,w=>Region.ready .any ops listed=[]∧Q .normal a w
 | fuel + 1, listed, a, w =>
   (Region.ready .any ops listed=[]→Q .normal a w)∧
   ∀i∈Region.ready .any ops listed,wpOp P ops Q i (fun a' w'=>(X.contains i=true∨(S w→S w'))∧aT P ops Q S X fuel (listed.setIfInBounds i true) a' w') a w
theorem pQ:∀(fuel:Nat) (listed:Array Bool) (a:Act) (w:World),aT P ops Q S X fuel listed a w→wpAny P .any ops Q fuel listed a w
 | 0,_,_,_,h=>h
 | fuel+1,_,_,_,h=>⟨h.1,fun i hi=>wpOp_mono (fun a' w' h'=>pQ fuel _ a' w' h'.2) (h.2 i hi)⟩
theorem tF {i:Nat}{oi:Oper}{v:Value}(hi:ops[i]?=some oi)(hsel:∀(j:Nat) (o:Oper) cs b,ops[j]?=some o→o.op≠.select cs b)
 (hQ:∀c a w,Q (.panic c) (a.put oi.dst v) w→Q (.panic c) a w) {F:Nat} (hX:∀x∈X,rY ops F x i=true) :
 ∀ (fuel : Nat) (listed : Array Bool) (a : Act) (w : World), oP ops listed →
   (∀j oj,ops[j]?=some oj→j≠i→listed.getD j true=false→(∀e∈oj.after,Region.binds .any e=true→e.on≠i)→oi.apart ops oj=true)→
   i∈Region.ready .any ops listed→YieldsIf P ops S oi v a→S w→
   aT P ops Q S X fuel (listed.setIfInBounds i true) (a.put oi.dst v) w→aT P ops Q S X (fuel+1) listed a w:=by
 intro fuel
 induction fuel with
 | zero =>
   intro listed a w _ _ hr hy hS H;refine⟨fun h=>(by rw[h]at hr;cases hr),fun j hj=>?_⟩
   by_cases hji:j=i
   ·
    subst hji;exact hy.wpOp hi hS ⟨.inr id,H⟩
   ·
    have:=ready_mono hj hji;rw[H.1]at this;cases this
 | succ fuel ih =>
   intro listed a w hcl hfree hr hy hS H;refine⟨fun h=>(by rw[h]at hr;cases hr),fun j hj=>?_⟩
   by_cases hji:j=i
   ·
    subst hji;exact hy.wpOp hi hS ⟨.inr id,H⟩
   ·
    have h1:=H.2 j (ready_mono hj hji);obtain⟨hjun,oj,hoj,hall⟩:=mem_ready.1 hj;have hiun:listed.getD i true=false:=(mem_ready.1 hr).1
    have hiun':listed.getD i false=false:=by
     rcases Nat.lt_or_ge i listed.size with h' | h'
     ·
      simp[Array.getD,h']at hiun ⊢;exact hiun
     ·
      simp[Array.getD,Nat.not_lt.2 h']at hiun
    have hjX:X.contains j=false:=by
     cases hc:X.contains j with
     | false=>rfl
     | true =>
       have:=yz hcl (hX j (by simpa using hc)) hj;rw[hiun']at this;cases this
    have hnot:∀e∈oj.after,Region.binds .any e=true→e.on≠i:=fun e he hb heq=>by
     have h1:=hall e he hb;rw[heq,hiun']at h1;cases h1
    have h2:=wpOp_putIf hoj (hfree j oj hoj hji hjun hnot) (fun cs b=>hsel i oi cs b hi) (fun cs b=>hsel j oj cs b hoj) hQ hy h1
    have hfree':∀k ok,ops[k]?=some ok→k≠i→(listed.setIfInBounds j true).getD k true=false→
     (∀e∈ok.after,Region.binds .any e=true→e.on≠i)→oi.apart ops ok=true:=fun k ok hk hki hun hno=>by
     refine hfree k ok hk hki ?_ hno
     by_cases hjk:j=k
     ·
      subst hjk;exact hjun
     ·
      rw[getD_set_ne true hjk]at hun;exact hun
    refine wpOp_mono (fun a' w' h3=>?_) h2
    have hSw:S w':=by
     rcases h3.2.1 with h | h
     ·
      rw[hjX]at h;cases h
     ·
      exact h hS
    refine⟨.inr fun _=>hSw,ih (listed.setIfInBounds j true) a' w' (uz hcl hj) hfree' (ready_mono hr (Ne.symm hji)) h3.1 hSw ?_⟩;rw[Array.setIfInBounds_comm _ _ hji];exact h3.2.2
theorem vJ {i:Nat}{oi:Oper}{v:Value}(hi:ops[i]?=some oi)(hsel:∀(j:Nat) (o:Oper) cs b,ops[j]?=some o→o.op≠.select cs b)
 (hQ:∀c a w,Q (.panic c) (a.put oi.dst v) w→Q (.panic c) a w) :
 ∀ (fuel : Nat) (listed : Array Bool) (a : Act) (w : World),
   (∀j oj,ops[j]?=some oj→j≠i→listed.getD j true=false→(∀e∈oj.after,Region.binds .any e=true→e.on≠i)→oi.apart ops oj=true)→
   i∈Region.ready .any ops listed→YieldsIf P ops (fun _=>True) oi v a→
   aT P ops Q S X fuel (listed.setIfInBounds i true) (a.put oi.dst v) w→aT P ops Q S X (fuel+1) listed a w:=by
 intro fuel
 induction fuel with
 | zero =>
   intro listed a w _ hr hy H;refine⟨fun h=>(by rw[h]at hr;cases hr),fun j hj=>?_⟩
   by_cases hji:j=i
   ·
    subst hji;exact hy.wpOp hi trivial ⟨.inr id,H⟩
   ·
    have:=ready_mono hj hji;rw[H.1]at this;cases this
 | succ fuel ih =>
   intro listed a w hfree hr hy H;refine⟨fun h=>(by rw[h]at hr;cases hr),fun j hj=>?_⟩
   by_cases hji:j=i
   ·
    subst hji;exact hy.wpOp hi trivial ⟨.inr id,H⟩
   ·
    have h1:=H.2 j (ready_mono hj hji);obtain⟨hjun,oj,hoj,hall⟩:=mem_ready.1 hj;have hiun:listed.getD i true=false:=(mem_ready.1 hr).1
    have hiun':listed.getD i false=false:=by
     rcases Nat.lt_or_ge i listed.size with h' | h'
     ·
      simp[Array.getD,h']at hiun ⊢;exact hiun
     ·
      simp[Array.getD,Nat.not_lt.2 h']at hiun
    have hnot:∀e∈oj.after,Region.binds .any e=true→e.on≠i:=fun e he hb heq=>by
     have h1:=hall e he hb;rw[heq,hiun']at h1;cases h1
    have h2:=wpOp_putIf hoj (hfree j oj hoj hji hjun hnot) (fun cs b=>hsel i oi cs b hi) (fun cs b=>hsel j oj cs b hoj) hQ hy h1
    have hfree':∀k ok,ops[k]?=some ok→k≠i→(listed.setIfInBounds j true).getD k true=false→
     (∀e∈ok.after,Region.binds .any e=true→e.on≠i)→oi.apart ops ok=true:=fun k ok hk hki hun hno=>by
     refine hfree k ok hk hki ?_ hno
     by_cases hjk:j=k
     ·
      subst hjk;exact hjun
     ·
      rw[getD_set_ne true hjk]at hun;exact hun
    refine wpOp_mono (fun a' w' h3=>⟨h3.2.1,ih (listed.setIfInBounds j true) a' w' hfree' (ready_mono hr (Ne.symm hji)) h3.1 ?_⟩) h2;rw[Array.setIfInBounds_comm _ _ hji];exact h3.2.2
theorem kb {i:Nat}{oi:Oper}{v:Value}{fuel:Nat}{listed:Array Bool}{a:Act}{w:World}(hi:ops[i]?=some oi)
 (hs:Region.noSelect ops=true) (hf:Region.free .any ops listed i=true) (hr:(Region.ready .any ops listed).contains i=true)
 (hQ:∀c a w,Q (.panic c) (a.put oi.dst v) w→Q (.panic c) a w) (hy:YieldsIf P ops (fun _=>True) oi v a)
 (h:aT P ops Q S X fuel (listed.setIfInBounds i true) (a.put oi.dst v) w):aT P ops Q S X (fuel+1) listed a w:=
 vJ hi (Region.noSelect_spec hs) hQ fuel listed a w (Region.free_spec hi hf) (by simpa using hr) hy h
theorem ud {i:Nat}{oi:Oper}{v:Value}{fuel:Nat}{listed:Array Bool}{a:Act}{w:World}(hi:ops[i]?=some oi)
 (hs:Region.noSelect ops=true) (hf:Region.free .any ops listed i=true) (hr:(Region.ready .any ops listed).contains i=true) (hc:nS ops listed=true) (hX:X.all (fun x=>rY ops ops.size x i)=true)
 (hQ:∀c a w,Q (.panic c) (a.put oi.dst v) w→Q (.panic c) a w) (hy:YieldsIf P ops S oi v a) (hS:S w)
 (h:aT P ops Q S X fuel (listed.setIfInBounds i true) (a.put oi.dst v) w):aT P ops Q S X (fuel+1) listed a w:=
 tF hi (Region.noSelect_spec hs) hQ (F:=ops.size) (fun x hx=>List.all_eq_true.1 hX x hx) fuel listed a w (yf hc) (Region.free_spec hi hf) (by simpa using hr) hy hS h
theorem mK {rs:List Nat}{fuel:Nat}{listed:Array Bool}{a:Act}{w:World}(hr:Region.ready .any ops listed=rs)(hne:rs≠[])
 (h:∀i∈rs,wpOp P ops Q i (fun a' w'=>(X.contains i=true∨(S w→S w'))∧aT P ops Q S X fuel (listed.setIfInBounds i true) a' w') a w):aT P ops Q S X (fuel+1) listed a w:=
 ⟨fun h0=>absurd (hr ▸ h0) hne,hr ▸ h⟩
theorem ai {listed:Array Bool}{a:Act}{w:World}(hr:Region.ready .any ops listed=[])(h:Q .normal a w) :
 ∀fuel,aT P ops Q S X fuel listed a w
 | 0=>⟨hr,h⟩
 | _+1=>⟨fun _=>h,by rw[hr];simp⟩
end
section
variable {P:Program} {ops:Array Oper} {a:Act} {n:Nat} {E:Env} {w W:World} {o:Oper} {v:Value} {d i fuel:Nat} {c:Prop} [Decidable c] {S:World→Prop} {Q:Exit→Act→World→Prop} {listed:Array Bool} {X:List Nat} {L:List As}
theorem jP {id:Nat}{l:List Oper}(X:List Nat)(S:World→Prop)(hm:P.follows .mixedOrders=true)
 (h:aT P l.toArray Q S X l.length (Array.replicate l.length false) a w.drew):(Code.region id l.toArray true).wp P Q a w:=
 wp_region_any hm (pQ _ _ _ _ (by simpa using h))
theorem bB {id:Nat}{l:List Oper}(X:List Nat)(hS:Sat W w L)(hm:P.follows .mixedOrders=true)
 (h:aT P l.toArray Q (kx W L) X l.length (Array.replicate l.length false) a w.drew):(Code.region id l.toArray true).wp P Q a w:=
 jP X (kx W L) hm h
theorem GW (i:Nat)(hA:Ag a n E ds)(hp:dp Q)(hi:ops[i]?=some o)(hw:Region.wanted o (yielded ops a.tmps)=true)(hd:o.dst=some d)(hn:Nat.blt d n=true)(hs:Region.noSelect ops=true)(hf:Region.free .any ops listed i=true)
 (hrd:(Region.ready .any ops listed).contains i=true) (hc:nS ops listed=true) (hX:X.all (fun x=>rY ops ops.size x i)=true) (hS:S w) (hr:∀w,S w→(execOp a.eval o).run P w=.ok (.value v) w)
 (k:∀a',Ag a' n ((d,v)::E) ds→aT P ops Q S X fuel (listed.setIfInBounds i true) a' w):aT P ops Q S X (fuel+1) listed a w:=by
 refine ud hi hs hf hrd hc hX (fun c a w h=>hp c a w _ _ h) (.inl ⟨hw,hr⟩) hS ?_;rw[cn hd];exact k _ (hA.put hn v)
theorem p1 (i:Nat)(hA:Ag a n E ds)(hp:dp Q)(hi:ops[i]?=some o)(hg:o.guard=none)(hd:o.dst=some d)(hn:Nat.blt d n=true)(hs:Region.noSelect ops=true)(hf:Region.free .any ops listed i=true)
 (hrd:(Region.ready .any ops listed).contains i=true) (hr:∀w,(execOp a.eval o).run P w=.ok (.value v) w)
 (k:∀a',Ag a' n ((d,v)::E) ds→aT P ops Q S X fuel (listed.setIfInBounds i true) a' w):aT P ops Q S X (fuel+1) listed a w:=by
 refine kb hi hs hf hrd (fun c a w h=>hp c a w _ _ h) (.inl ⟨by simp[Region.wanted,hg],fun w _=>hr w⟩) ?_;rw[cn hd];exact k _ (hA.put hn v)
theorem EX (i:Nat)(hA:Ag a n E ds)(hp:dp Q)(hi:ops[i]?=some o)(hg:o.guard=none)(hd:o.dst=some d)(hn:Nat.blt d n=true)(hs:Region.noSelect ops=true)(hf:Region.free .any ops listed i=true)
 (hrd:(Region.ready .any ops listed).contains i=true) (hr:∀w,(execOp a.eval o).run P w=.ok (.value (.bool (decide c))) w)
 (kt:c→∀a',Ag a' n ((d,.bool true)::E) ds→aT P ops Q S X fuel (listed.setIfInBounds i true) a' w) (kf:¬c→∀a',Ag a' n ((d,.bool false)::E) ds→aT P ops Q S X fuel (listed.setIfInBounds i true) a' w):aT P ops Q S X (fuel+1) listed a w:=by
 by_cases h:c
 ·
  exact p1 i hA hp hi hg hd hn hs hf hrd (fun w=>dr (hr w) h) (kt h)
 ·
  exact p1 i hA hp hi hg hd hn hs hf hrd (fun w=>cV (hr w) h) (kf h)
theorem DG (i:Nat)(hA:Ag a n E ds)(hp:dp Q)(hi:ops[i]?=some o)(hw:Region.wanted o (yielded ops a.tmps)=true)(hd:o.dst=some d)(hn:Nat.blt d n=true)(hs:Region.noSelect ops=true)(hf:Region.free .any ops listed i=true)
 (hrd:(Region.ready .any ops listed).contains i=true) (hr:∀w,(execOp a.eval o).run P w=.ok (.value v) w)
 (k:∀a',Ag a' n ((d,v)::E) ds→aT P ops Q S X fuel (listed.setIfInBounds i true) a' w):aT P ops Q S X (fuel+1) listed a w:=by
 refine kb hi hs hf hrd (fun c a w h=>hp c a w _ _ h) (.inl ⟨hw,fun w _=>hr w⟩) ?_;rw[cn hd];exact k _ (hA.put hn v)
theorem C8 (i:Nat)(hA:Ag a n E ds)(hp:dp Q)(hi:ops[i]?=some o)(hw:Region.wanted o (yielded ops a.tmps)=true)(hd:o.dst=some d)(hn:Nat.blt d n=true)(hs:Region.noSelect ops=true)(hf:Region.free .any ops listed i=true)
 (hrd:(Region.ready .any ops listed).contains i=true) (hr:∀w,(execOp a.eval o).run P w=.ok (.value (.bool (decide c))) w)
 (kt:c→∀a',Ag a' n ((d,.bool true)::E) ds→aT P ops Q S X fuel (listed.setIfInBounds i true) a' w) (kf:¬c→∀a',Ag a' n ((d,.bool false)::E) ds→aT P ops Q S X fuel (listed.setIfInBounds i true) a' w):aT P ops Q S X (fuel+1) listed a w:=by
 by_cases h:c
 ·
  exact DG i hA hp hi hw hd hn hs hf hrd (fun w=>dr (hr w) h) (kt h)
 ·
  exact DG i hA hp hi hw hd hn hs hf hrd (fun w=>cV (hr w) h) (kf h)
theorem DB (i:Nat)(hA:Ag a n E ds)(hp:dp Q)(hi:ops[i]?=some o)(hw:Region.wanted o (yielded ops a.tmps)=true)(hd:o.dst=some d)(hn:Nat.blt d n=true)(hs:Region.noSelect ops=true)(hf:Region.free .any ops listed i=true)
 (hrd:(Region.ready .any ops listed).contains i=true) {b:Bool} (hr:∀w,(execOp a.eval o).run P w=.ok (.value (.bool b)) w)
 (kt:b=true→∀a',Ag a' n ((d,.bool true)::E) ds→aT P ops Q S X fuel (listed.setIfInBounds i true) a' w) (kf:b=false→∀a',Ag a' n ((d,.bool false)::E) ds→aT P ops Q S X fuel (listed.setIfInBounds i true) a' w):aT P ops Q S X (fuel+1) listed a w:=by
 cases b with
 | true=>exact DG i hA hp hi hw hd hn hs hf hrd hr (kt rfl)
 | false=>exact DG i hA hp hi hw hd hn hs hf hrd hr (kf rfl)
theorem GQ (i:Nat)(hA:Ag a n E ds)(hp:dp Q)(hi:ops[i]?=some o)(hw:Region.wanted o (yielded ops a.tmps)=false)(hd:o.dst=some d)(hn:Nat.blt d n=true)(hs:Region.noSelect ops=true)(hf:Region.free .any ops listed i=true)
 (hrd:(Region.ready .any ops listed).contains i=true)
 (k:∀a',Ag a' n ((d,undef)::E) ds→aT P ops Q S X fuel (listed.setIfInBounds i true) a' w):aT P ops Q S X (fuel+1) listed a w:=by
 refine kb hi hs hf hrd (fun c a w h=>hp c a w _ _ h) (.inr ⟨hw,rfl⟩) ?_;rw[cn hd];exact k _ (hA.put hn undef)
theorem aG (i:Nat)(hrd:Region.ready .any ops listed=[i])(h:wpOp P ops Q i (fun a' w'=>(X.contains i=true∨(S w→S w'))∧aT P ops Q S X fuel (listed.setIfInBounds i true) a' w') a w):aT P ops Q S X (fuel+1) listed a w:=
 mK hrd (by simp) fun j hj=>by simp at hj;subst hj;exact h
theorem kN (i j:Nat)(hrd:Region.ready .any ops listed=[i,j])(h:wpOp P ops Q i (fun a' w'=>(X.contains i=true∨(S w→S w'))∧aT P ops Q S X fuel (listed.setIfInBounds i true) a' w') a w)
 (h':wpOp P ops Q j (fun a' w'=>(X.contains j=true∨(S w→S w'))∧aT P ops Q S X fuel (listed.setIfInBounds j true) a' w') a w):aT P ops Q S X (fuel+1) listed a w:=
 mK hrd (by simp) fun k hk=>by
  simp at hk;rcases hk with rfl | rfl
  ·
   exact h
  ·
   exact h'
theorem AO (i j m:Nat)(hrd:Region.ready .any ops listed=[i,j,m])(h:wpOp P ops Q i (fun a' w'=>(X.contains i=true∨(S w→S w'))∧aT P ops Q S X fuel (listed.setIfInBounds i true) a' w') a w)
 (h':wpOp P ops Q j (fun a' w'=>(X.contains j=true∨(S w→S w'))∧aT P ops Q S X fuel (listed.setIfInBounds j true) a' w') a w)
 (h'':wpOp P ops Q m (fun a' w'=>(X.contains m=true∨(S w→S w'))∧aT P ops Q S X fuel (listed.setIfInBounds m true) a' w') a w):aT P ops Q S X (fuel+1) listed a w:=
 mK hrd (by simp) fun k hk=>by
  simp at hk;rcases hk with rfl | rfl | rfl
  ·
   exact h
  ·
   exact h'
  ·
   exact h''
end
section
variable {P:Program} {ops:Array Oper} {a:Act} {n:Nat} {E:Env} {w W:World} {rest:List Oper} {d:Nat} {Q:Exit→Act→World→Prop} {L:List As} {e t:TypeId} {ty:TypeId} {ps:String} {af:Array Edge}
theorem Dn {ρ:Operand→Value}{dd:Option Tmp}{g:Option (Nat×Bool)}{z:Option Value}{by_ sz:Nat}(ht:P.underlying t=some (.slice e))(hi:cN P e=some (z,sz,by_)) :
 (execOp ρ ⟨dd,.buildSlice t 0 [].toArray,ty,ps,af,g⟩).run P w=.ok (.value (.slice (some ⟨w.heap.size,0,none⟩) 0 0)) (w.alloc (.cells #[] e)):=by
 obtain⟨i,hi',hq⟩:=Option.map_eq_some_iff.1 hi;simp only[Prod.mk.injEq]at hq;obtain⟨hz,hsz,hb⟩:=hq
 have hr:(Instr.buildSlice t 0 #[]).run P w=.ok (.slice (some ⟨w.heap.size,0,none⟩) 0 0) (w.alloc (.cells #[] e)):=by
  simp[Instr.buildSlice,run_underlying ht,sizeOf,typeInfo,hi',Instr.fill,newRow,newObj,Sem.run,go_sem]
 have he:(execOp ρ ⟨dd,.buildSlice t 0 [].toArray,ty,ps,af,g⟩)=(Instr.buildSlice t 0 #[]).bind fun r=>Sem.pure (Next.value r):=by
  have hm:((#[]:Array (Nat×Operand)).map fun (p:Nat×Operand)=>(p.1,ρ p.2))=#[]:=by simp
  show (Instr.buildSlice t 0 ((#[]:Array (Nat×Operand)).map fun (p:Nat×Operand)=>(p.1,ρ p.2))).bind (fun r=>Sem.pure (Next.value r))=_;rw[hm]
 rw[he,Sem.run_bind',hr]
 rfl
theorem Sat.Bc (s:Sat W w L)(e sz:Nat):Sat W (w.alloc (.cells #[] e)) (row e sz (.slice (some ⟨w.heap.size,0,none⟩) 0 0) 0 []::L):=by
 have:=s.xL e sz 0 #[] (by simp) (by omega);simpa using this
theorem Dx {z:Option Value}{by_ sz:Nat}(hA:Ag a n E ds)(hn:Nat.blt d n=true)(ht:P.underlying t=some (.slice e))(hi:cN P e=some (z,sz,by_))(s:Sat W w L)
 (k:∀A w',Sat W w' (row e sz (.slice A 0 0) 0 []::L)→∀a',Ag a' n ((d,.slice A 0 0)::E) ds→wpList P ops Q rest a' w'):wpList P ops Q (⟨some d,.buildSlice t 0 [].toArray,ty,ps,af,none⟩::rest) a w:=
 uo hA rfl rfl hn (Dn ht hi) (k _ _ (s.Bc e sz))
theorem Gw {ρ:Operand→Value}{dd:Option Tmp}{g:Option (Nat×Bool)}{l:List (Nat×Operand)}{vss:List (List Value)}{z:Value}{by_ len sz:Nat}(hA:Ag a n E ds)(hv:lits E 0 l=some (vss.map fun vs=>Value.agg vs.toArray))(ht:P.underlying t=some (.slice e))(hi:cN P e=some (some z,sz,by_))(hzs:z.cells.size=sz)
 (hl:Nat.beq len vss.length=true) (hsm:Nat.ble (len * sz) 16777216=true) (h1:∀vs∈vss,vs.length=sz) (h0:Nat.blt 0 (len * sz)=true) (s:Sat W w L) :
 (execOp a.eval ⟨dd,.buildSlice t len l.toArray,ty,ps,af,g⟩).run P w=.ok (.value (.slice (some ⟨w.heap.size,0,none⟩) len len)) (w.alloc (.cells vss.flatten.toArray e))∧Sat W (w.alloc (.cells vss.flatten.toArray e)) (row e sz (.slice (some ⟨w.heap.size,0,none⟩) len len) len vss.flatten::L):=by
 have hl:=Nat.eq_of_beq_eq_true hl;have hsm:=Nat.le_of_ble_eq_true hsm;obtain⟨h3,h4,h5⟩:=nZ hv;have h5':l.length=vss.length:=by simpa using h5
 have h00:0<len * sz:=by
  have:=h0;simp[Nat.blt]at this;omega
 have hz0:0<sz:=by
  rcases Nat.eq_zero_or_pos sz with h | h
  ·
   rw[h]at h00;simp at h00
  ·
   exact h
 have hlz:len≤len * sz:=Nat.le_mul_of_pos_right _ hz0;refine⟨kl (vss:=vss) ht hi hzs (by rw[h4,h5']) ?_ hl hsm h1 h00,?_⟩
 ·
  have:=hA.jN h3;rw[←this];simp
 ·
  refine (s.alloc _).imp fun h hb=>.inr ⟨_,len,[],(0,0),rfl,Nat.le_refl _,by omega,?_,?_,jD.zero _,by simp only[List.append_nil];exact hb⟩
  all_goals
   have:∀vss:List (List Value),(∀vs∈vss,vs.length=sz)→vss.flatten.length=vss.length * sz:=fun vss=>by
    induction vss with
    | nil=>simp
    | cons v vs ih=>intro h;simp[h v (by simp),ih fun x hx=>h x (List.mem_cons_of_mem _ hx),Nat.succ_mul];omega
   simp[this vss h1,hl]
theorem tk {i:Nat}{K:Act→World→Prop}{l:List (Nat×Operand)}{vss:List (List Value)}{z:Value}{by_ len sz:Nat}(hA:Ag a n E ds)(hi':ops[i]?=some ⟨some d,.buildSlice t len l.toArray,ty,ps,af,none⟩)(hn:Nat.blt d n=true)(hv:lits E 0 l=some (vss.map fun vs=>Value.agg vs.toArray))(ht:P.underlying t=some (.slice e))(hi:cN P e=some (some z,sz,by_))(hzs:z.cells.size=sz)
 (hl:Nat.beq len vss.length=true) (hsm:Nat.ble (len * sz) 16777216=true) (h1:∀vs∈vss,vs.length=sz) (h0:Nat.blt 0 (len * sz)=true)
 (s:Sat W w L) (k:∀A w',Sat W w' (row e sz (.slice A len len) len vss.flatten::L)→∀a',Ag a' n ((d,.slice A len len)::E) ds→K a' w'):wpOp P ops Q i K a w:=
 have h:=Gw (dd:=some d) (ty:=ty) (ps:=ps) (af:=af) (g:=none) (ρ:=a.eval) hA hv ht hi hzs hl hsm h1 h0 s
 e1 hA hi' rfl rfl hn h.1 (k _ _ h.2)
end
end Go.Proofs.YtkjabaihpkbfhaaGreat.K
namespace Go.Proofs.YtkjabaihpkbfhaaGreat.K
open Go Go.RowKit
section
variable {P:Program} {Q:Exit→Act→World→Prop} {a:Act} {w:World}
theorem iD {x y:Code}(J:Act→World→Prop)(h1:x.wp P (Exit.then J Q) a w)(h2:∀a w,J a w→y.wp P Q a w):(Code.seq x y).wp P Q a w:=
 wp_seq (wp_mono h1 fun e a w q=>by
  cases e with
  | normal=>exact h2 _ _ q
  | exit id=>exact q
  | goto l=>exact q
  | ret=>exact q
  | panic c=>exact q
  | outgrown=>exact q)
end
end Go.Proofs.YtkjabaihpkbfhaaGreat.K
namespace Go.Proofs.YtkjabaihpkbfhaaGreat.K
open Go Go.RowKit
variable {ds:List Deferred}
inductive vX where
 | seq (y:Code)
 | blk (i:Nat)
 | thn (K:Act→World→Prop)
def post (P:Program)(Q:Exit→Act→World→Prop):List vX→Exit→Act→World→Prop
 | []=>Q
 | .seq y::s=>Exit.then (y.wp P (post P Q s)) (post P Q s)
 | .blk i::s=>Exit.inBlock i (post P Q s)
 | .thn K::s=>Exit.then K (post P Q s)
class um (P:Program)(Q':Exit→Act→World→Prop)(Q:outParam (Exit→Act→World→Prop))(s:outParam (List vX)):Prop where
 eq:Q'=post P Q s
instance (priority:=10) um.i0 {P:Program}{Q:Exit→Act→World→Prop}:um P Q Q []:=⟨rfl⟩
instance (priority:=100) um.i1 {P:Program}{Q:Exit→Act→World→Prop}{s:List vX}:um P (post P Q s) Q s:=⟨rfl⟩
instance (priority:=100) um.i2 {P:Program}{K:Act→World→Prop}{Q' Q:Exit→Act→World→Prop}{s:List vX}[h:um P Q' Q s]:um P (Exit.then K Q') Q (.thn K::s):=⟨by cases h.eq;rfl⟩
class CB (Q':Exit→Act→World→Prop)(P:outParam Program)(Q:outParam (Exit→Act→World→Prop))(s:outParam (List vX)):Prop where
 eq:Q'=post P Q s
instance (priority:=100) CB.i1 {P:Program}{Q:Exit→Act→World→Prop}{s:List vX}:CB (post P Q s) P Q s:=⟨rfl⟩
instance (priority:=100) CB.i2 {P:Program}{K:Act→World→Prop}{Q' Q:Exit→Act→World→Prop}{s:List vX}[h:CB Q' P Q s]:CB (Exit.then K Q') P Q (.thn K::s):=⟨by cases h.eq;rfl⟩
instance (priority:=100) CB.i3 {P:Program}{fn:Func}{R:Ending→World→Prop}:CB (bodyPost P fn R) P (bodyPost P fn R) []:=⟨rfl⟩
inductive Md where
 | c (c:Code)
 | o (ops:Array Oper) (l:List Oper)
 | e (e:Exit)
def goal (P:Program)(Q:Exit→Act→World→Prop)(n:Nat)(ds:List Deferred)(w:World):Md→List vX→Env→Prop
 | .c c,s,E=>∀a,Ag a n E ds→c.wp P (post P Q s) a w
 | .o ops l,s,E=>∀a,Ag a n E ds→wpList P ops (post P Q s) l a w
 | .e .normal,.thn K::_,E=>∀a,Ag a n E ds→K a w
 | .e e,[],E=>∀a,Ag a n E ds→Q e a w
 | .e e,s,E=>∀a,Ag a n E ds→post P Q s e a w
def Bx (E:Env):Op→Option Value
 | .move x=>ez E x
 | .assign x=>ez E x
 | .pick c x y => match ez E c with
   | some (.bool true)=>ez E x
   | some (.bool false)=>ez E y
   | _=>none
 | _=>none
def ui:List Oper→Nat→Option Oper
 | [],_=>none
 | o::_,0=>some o
 | _::l,j+1=>ui l j
def gM (ops:Array Oper)(o:Oper)(E:Env):Option Bool:=
 match o.guard with
 | none=>some true
 | some (j, b) => match ui ops.toList j with
   | some p => match p.dst with
     | some t => match find t E with
       | some (.bool true)=>some (true == b)
       | some (.bool false)=>some (false == b)
       | some (.tuple _)=>some false
       | _=>none
     | none=>none
   | none=>none
section
variable (P:Program) (Q:Exit→Act→World→Prop) (n:Nat) (ds:List Deferred) (w:World)
def kq:Nat→Md→List vX→Env→Prop
 | 0,m,s,E=>goal P Q n ds w m s E
 | k+1,.c (.seq x y),s,E=>kq k (.c x) (.seq y::s) E
 | k+1,.c (.block i x),s,E=>kq k (.c x) (.blk i::s) E
 | k+1,.c .skip,s,E=>kq k (.e .normal) s E
 | k+1,.c .ret,s,E=>kq k (.e .ret) s E
 | k+1,.c (.exit i),s,E=>kq k (.e (.exit i)) s E
 | k+1,.c (.region i ops false),s,E=>kq k (.o ops ops.toList) s E
 | k + 1, .c (.cond c x y), s, E => match ez E c with
   | some (.bool true)=>kq k (.c x) s E
   | some (.bool false)=>kq k (.c y) s E
   | _=>goal P Q n ds w (.c (.cond c x y)) s E
 | k+1,.o ops [],s,E=>kq k (.e .normal) s E
 | k + 1, .o ops (o :: r), s, E => match o.dst with
   | some d => match Nat.blt d n with
     | true => match gM ops o E with
       | some true => match Bx E o.op with
         | some v=>kq k (.o ops r) s ((d,v)::E)
         | none=>goal P Q n ds w (.o ops (o::r)) s E
       | some false=>kq k (.o ops r) s ((d,undef)::E)
       | none=>goal P Q n ds w (.o ops (o::r)) s E
     | false=>goal P Q n ds w (.o ops (o::r)) s E
   | none=>goal P Q n ds w (.o ops (o::r)) s E
 | k+1,.e .normal,.seq y::s,E=>kq k (.c y) s E
 | k+1,.e .normal,.blk i::s,E=>kq k (.e .normal) s E
 | k + 1, .e (.exit i), .blk j :: s, E => match Nat.beq i j with
   | true=>kq k (.e .normal) s E
   | false=>kq k (.e (.exit i)) s E
 | k+1,.e (.exit i),.seq _::s,E=>kq k (.e (.exit i)) s E
 | k+1,.e (.exit i),.thn _::s,E=>kq k (.e (.exit i)) s E
 | k+1,.e .ret,_::s,E=>kq k (.e .ret) s E
 | k+1,.e (.panic c),_::s,E=>kq k (.e (.panic c)) s E
 | k+1,m,s,E=>goal P Q n ds w m s E
end
section
variable {P:Program} {Q Q':Exit→Act→World→Prop} {n:Nat} {w:World} {s:List vX} {E:Env} {a:Act} {ops:Array Oper} {l r:List Oper} {o:Oper} {d:Nat} {v:Value}
theorem jf {e:Exit}(h:goal P Q n ds w (.e e) s E):∀a,Ag a n E ds→post P Q s e a w:=by
 cases e<;>cases s with
 | nil=>exact h
 | cons f s=>cases f<;>exact h
theorem xP (hA:Ag a n E ds)(h:Bx E o.op=some v):(execOp a.eval o).run P w=.ok (.value v) w:=by
 obtain⟨od,op,ty,ps,af,g⟩:=o;cases op with
 | move x=>exact sY (hA.ev h)
 | assign x=>exact nt (hA.ev h)
 | pick c x y =>
   simp only[Bx]at h
   split at h
   ·
    rename_i hc;exact Ad (hA.ev hc) (hA.ev h)
   ·
    rename_i hc;exact qD (hA.ev hc) (hA.ev h)
   ·
    cases h
 | _=>cases h
theorem jM {l:List Oper}{b:Bool}(hA:Ag a n E ds)(h:gM l.toArray o E=some b):Region.wanted o (yielded l.toArray a.tmps)=b:=by
 unfold gM at h
 split at h
 ·
  rename_i hg;cases h;simp[Region.wanted,hg]
 ·
  rename_i j c hg
  have hj:∀(l:List Oper) (j:Nat),ui l j=l[j]?:=fun l=>by
   induction l with
   | nil=>intro j;rfl
   | cons x l ih => intro j; cases j with
     | zero=>rfl
     | succ j=>simpa[ui]using ih j
  rw[hj]at h
  split at h
  ·
   rename_i p hp
   split at h
   ·
    rename_i t ht;have hp':l.toArray[j]?=some p:=by simpa using hp
    split at h
    all_goals first | (cases h;rename_i hv;simp[Region.wanted,hg,yielded,hp,ht,hA.at_ t _ hv]) | cases h
   ·
    cases h
  ·
   cases h
theorem kU (k:Nat):∀ {m:Md} {s:List vX} {E:Env},kq P Q n ds w k m s E→goal P Q n ds w m s E:=by
 induction k with
 | zero=>intro m s E h;exact h
 | succ k ih =>
   intro m s E h;cases m with
   | c x => cases x with
     | seq x y=>exact fun a hA=>wp_seq (ih h a hA)
     | block i x=>exact fun a hA=>wp_block (ih h a hA)
     | skip=>exact fun a hA=>wp_skip (jf (ih h) a hA)
     | ret=>exact fun a hA=>wp_ret (jf (ih h) a hA)
     | exit i=>exact fun a hA=>wp_exit (jf (ih h) a hA)
     | region i ops b => cases b with
       | false=>exact fun a hA=>wp_region_list (ih h a hA)
       | true=>exact h
     | cond c x y =>
       simp only[kq]at h
       split at h
       ·
        rename_i hc;exact fun a hA=>wp_cond_true (hA.ev hc) (ih h a hA)
       ·
        rename_i hc;exact fun a hA=>wp_cond_false (hA.ev hc) (ih h a hA)
       ·
        exact h
     | _=>exact h
   | o ops l => cases l with
     | nil=>exact fun a hA=>wpList_nil (jf (ih h) a hA)
     | cons o r =>
       obtain⟨L⟩:=ops;simp only[kq]at h
       split at h
       ·
        rename_i d hd
        split at h
        ·
         rename_i hn
         split at h
         ·
          rename_i hw
          split at h
          ·
           rename_i v hv;exact fun a hA=>yE hA (jM hA hw) hd hn (xP hA hv) (ih h)
          ·
           exact h
         ·
          rename_i hw;exact fun a hA=>GO hA (jM hA hw) hd hn (ih h)
         ·
          exact h
        ·
         exact h
       ·
        exact h
   | e e =>
     cases e<;>cases s with
     | nil=>exact h
     | cons f s => cases f with
       | seq y=>first | exact fun a hA=>ih h a hA | exact fun a hA=>jf (ih h) a hA | exact h
       | blk j =>
         first
         | exact fun a hA=>jf (ih h) a hA
         | (simp only [kq] at h
            split at h
            ·
             rename_i hb;have:=Nat.eq_of_beq_eq_true hb;subst this;exact fun a hA=>yI (jf (ih h) a hA)
            ·
             rename_i hb;exact fun a hA=>wL hb (jf (ih h) a hA))
         | exact h
       | thn K=>first | exact fun a hA=>jf (ih h) a hA | exact h
theorem rC {c:Code}[hp:um P Q' Q s](k:Nat)(hA:Ag a n E ds)(h:kq P Q n ds w k (.c c) s E):c.wp P Q' a w:=by
 rw[hp.eq];exact kU k h a hA
theorem rO [hp:um P Q' Q s](k:Nat)(hA:Ag a n E ds)(h:kq P Q n ds w k (.o ops l) s E):wpList P ops Q' l a w:=by
 rw[hp.eq];exact kU k h a hA
theorem rE {e:Exit}[hp:CB Q' P Q s](k:Nat)(hA:Ag a n E ds)(h:kq P Q n ds w k (.e e) s E):Q' e a w:=by
 rw[hp.eq];exact jf (kU k h) a hA
theorem o1 {w':World}[hp:um P Q' Q s](k:Nat)(hA:Ag a n E ds)(hr:(execOp a.eval o).run P w=.ok (.value v) w')(hk:kq P Q n ds w' k (.o ops r) s ((d,v)::E))
 (hd:o.dst=some d:=by rfl) (hn:Nat.blt d n=true:=by rfl) (hw:gM ops o E=some true:=by rfl):wpList P ops Q' (o::r) a w:=by
 rw[hp.eq];obtain⟨L⟩:=ops;exact yE hA (jM hA hw) hd hn hr (kU k hk)
end
end Go.Proofs.YtkjabaihpkbfhaaGreat.K
namespace Go.Proofs.YtkjabaihpkbfhaaGreat.K
open Go Go.RowKit
variable {ds:List Deferred}
class wV (Q:Exit→Act→World→Prop):Prop where
 ok:dp Q
instance {P:Program}{fn:Func}{R:Ending→World→Prop}:wV (bodyPost P fn R):=⟨u9⟩
instance {K:Act→World→Prop}{Q:Exit→Act→World→Prop}[h:wV Q]:wV (Exit.then K Q):=⟨qg h.ok⟩
instance {i:Nat}{Q:Exit→Act→World→Prop}[h:wV Q]:wV (Exit.inBlock i Q):=⟨sI h.ok⟩
theorem nY {P:Program}{Q:Exit→Act→World→Prop}(h:dp Q):∀s:List vX,dp (post P Q s)
 | []=>h
 | .seq _::s=>qg (nY h s)
 | .blk _::s=>sI (nY h s)
 | .thn _::s=>qg (nY h s)
instance {P:Program}{Q:Exit→Act→World→Prop}{s:List vX}[h:wV Q]:wV (post P Q s):=⟨nY h.ok s⟩
theorem pk {Q:Exit→Act→World→Prop}[h:wV Q]:dp Q:=h.ok
theorem Br {P:Program}{fn:Func}{R:Ending→World→Prop}{c:Code}{a:Act}{w:World}(h:∀Q,wV Q→(∀e a w,bodyPost P fn R e a w→Q e a w)→c.wp P Q a w):c.wp P (bodyPost P fn R) a w:=h _ ⟨u9⟩ fun _ _ _ h=>h
section
variable (n:Nat) (ops:Array Oper) (G:List Oper→Env→Prop)
def one (n:Nat)(ops:Array Oper)(o:Oper)(E:Env):Option (Nat×Value):=match o.dst with
 | some d => match Nat.blt d n with
   | true => match gM ops o E with
     | some true => match Bx E o.op with
       | some v=>some (d,v)
       | none=>none
     | some false=>some (d,undef)
     | none=>none
   | false=>none
 | none=>none
def rK:Nat→List Oper→Env→Prop
 | 0,l,E=>G l E
 | k + 1, o :: r, E => match one n ops o E with
   | some (d,v)=>rK k r ((d,v)::E)
   | none=>G (o::r) E
 | k+1,[],E=>G [] E
def rN (G:Nat→Array Bool→Env→Prop):List Nat→Nat→Array Bool→Env→Prop
 | [],f,l,E=>G f l E
 | i :: is, f + 1, l, E => match ui ops.toList i with
   | some o => match one n ops o E with
     | some (d,v)=>rN G is f (l.setIfInBounds i true) ((d,v)::E)
     | none=>G (f+1) l E
   | none=>G (f+1) l E
 | _::_,0,l,E=>G 0 l E
def iZ (ops:Array Oper):List Nat→Array Bool→Bool
 | [],_=>true
 | i::is,l=>Region.noSelect ops && (Region.free .any ops l i && ((Region.ready .any ops l).contains i && iZ ops is (l.setIfInBounds i true)))
end
theorem tz {n:Nat}{ops:Array Oper}{G:List Oper→Env→Prop}(hG:∀o r E d v,one n ops o E=some (d,v)→G r ((d,v)::E)→G (o::r) E):∀ {k:Nat} {l:List Oper} {E:Env},rK n ops G k l E→G l E
 | 0,l,E,h=>h
 | k+1,[],E,h=>h
 | k + 1, o :: r, E, h => by
   simp only[rK]at h
   split at h
   ·
    rename_i d v he;exact hG _ _ _ _ _ he (tz hG h)
   ·
    exact h
theorem xA {n:Nat}{ops:Array Oper}{G:Nat→Array Bool→Env→Prop}(hG:∀i o f l E d v,ui ops.toList i=some o→one n ops o E=some (d,v)→iZ ops [i] l=true→G f (l.setIfInBounds i true) ((d,v)::E)→G (f+1) l E):∀ {is:List Nat} {f:Nat} {l:Array Bool} {E:Env},iZ ops is l=true→rN n ops G is f l E→G f l E
 | [],f,l,E,_,h=>by simpa only [rN]using h
 | i::is,0,l,E,_,h=>h
 | i :: is, f + 1, l, E, hf, h => by
   simp only[iZ,Bool.and_eq_true]at hf;simp only[rN]at h
   split at h
   ·
    rename_i o ho
    split at h
    ·
     rename_i d v he;exact hG i o f l E d v ho he (by simp only[iZ,Bool.and_eq_true,Bool.and_true];exact⟨hf.1,hf.2.1,hf.2.2.1⟩) (xA hG hf.2.2.2 h)
    ·
     exact h
   ·
    exact h
theorem w5:∀(l:List Oper) (j:Nat),ui l j=l[j]?
 | [],j=>rfl
 | _::_,0=>rfl
 | _::l,j+1=>by simpa[ui]using w5 l j
theorem vS {P:Program}{a:Act}{n:Nat}{E:Env}{ops:Array Oper}{o:Oper}{d:Nat}{v:Value}(hA:Ag a n E ds)(h:one n ops o E=some (d,v)) :
 o.dst=some d∧Nat.blt d n=true∧((Region.wanted o (yielded ops a.tmps)=true∧∀w,(execOp a.eval o).run P w=.ok (.value v) w)∨(Region.wanted o (yielded ops a.tmps)=false∧v=undef)):=by
 obtain⟨L⟩:=ops;unfold one at h
 split at h
 ·
  rename_i d' hd
  split at h
  ·
   rename_i hn
   split at h
   ·
    rename_i hw
    split at h
    ·
     rename_i v' hv;cases h;exact⟨hd,hn,.inl ⟨jM hA hw,fun w=>xP hA hv⟩⟩
    ·
     cases h
   ·
    rename_i hw;cases h;exact⟨hd,hn,.inr ⟨jM hA hw,rfl⟩⟩
   ·
    cases h
  ·
   cases h
 ·
  cases h
section
variable {P:Program} {ops:Array Oper} {a:Act} {n:Nat} {E:Env} {w:World} {l r:List Oper} {o:Oper} {d fuel:Nat} {v:Value} {c:Prop} [Decidable c]
variable {C:World→Prop} {Q:Act→Prop}
theorem rQ (k:Nat)(hA:Ag a n E ds)(h:rK n ops (fun l E=>∀a,Ag a n E ds→wpQuiet P ops C Q l a) k l E):wpQuiet P ops C Q l a:=
 tz (G:=fun l E=>∀a,Ag a n E ds→wpQuiet P ops C Q l a) (fun o r E d v he hk a hA=>by
  obtain⟨hd,hn,⟨hw,hr⟩ | ⟨hw,rfl⟩⟩:=vS (P:=P) hA he
  ·
   exact FZ hA hw hd hn (fun w _=>hr w) hk
  ·
   exact qS hA hw hd hn hk) h a hA
theorem rT (k:Nat)(hA:Ag a n E ds)(h:rK n ops (fun l E=>∀a,Ag a n E ds→wpStill P ops w Q l a) k l E):wpStill P ops w Q l a:=
 tz (G:=fun l E=>∀a,Ag a n E ds→wpStill P ops w Q l a) (fun o r E d v he hk a hA=>by
  obtain⟨hd,hn,⟨hw,hr⟩ | ⟨hw,rfl⟩⟩:=vS (P:=P) hA he
  ·
   exact GC hA hw hd hn (hr _) hk
  ·
   exact tS hA hw hd hn hk) h a hA
theorem oD (hA:Ag a n E ds){b:Bool}(h:gM ops o E=some b):Region.wanted o (yielded ops a.tmps)=b:=by
 obtain⟨L⟩:=ops;exact jM hA h
theorem Q1 (k:Nat)(hA:Ag a n E ds)(hr:∀w,C w→(execOp a.eval o).run P w=.ok (.value v) w)(hk:rK n ops (fun l E=>∀a,Ag a n E ds→wpQuiet P ops C Q l a) k r ((d,v)::E))
 (hd:o.dst=some d:=by rfl) (hn:Nat.blt d n=true:=by rfl) (hw:gM ops o E=some true:=by rfl):wpQuiet P ops C Q (o::r) a:=
 FZ hA (oD hA hw) hd hn hr fun a hA=>rQ k hA hk
theorem T1 (k:Nat)(hA:Ag a n E ds)(hr:(execOp a.eval o).run P w=.ok (.value v) w)(hk:rK n ops (fun l E=>∀a,Ag a n E ds→wpStill P ops w Q l a) k r ((d,v)::E))
 (hd:o.dst=some d:=by rfl) (hn:Nat.blt d n=true:=by rfl) (hw:gM ops o E=some true:=by rfl):wpStill P ops w Q (o::r) a:=
 GC hA (oD hA hw) hd hn hr fun a hA=>rT k hA hk
end
section
variable {P:Program} {ops:Array Oper} {a:Act} {n:Nat} {E:Env} {w:World} {o:Oper} {v:Value} {d i fuel:Nat} {c:Prop} [Decidable c] {S:World→Prop} {X:List Nat} {Q:Exit→Act→World→Prop} {listed:Array Bool}
theorem rX (is:List Nat)(hA:Ag a n E ds)(h:rN n ops (fun f l E=>∀a,Ag a n E ds→aT P ops Q S X f l a w) is fuel listed E)(hf:iZ ops is listed=true:=by kernel_rfl)[hp:wV Q]:aT P ops Q S X fuel listed a w:=
 xA (G:=fun f l E=>∀a,Ag a n E ds→aT P ops Q S X f l a w) (fun i o f l E d v hi he hf hk a hA=>by
  simp only[iZ,Bool.and_eq_true,Bool.and_true]at hf;have hi':ops[i]?=some o:=by obtain⟨L⟩:=ops;rw[w5]at hi;simpa using hi
  obtain⟨hd,hn,⟨hw,hr⟩ | ⟨hw,rfl⟩⟩:=vS (P:=P) hA he
  ·
   exact DG i hA hp.ok hi' hw hd hn hf.1 hf.2.1 hf.2.2 hr hk
  ·
   exact GQ i hA hp.ok hi' hw hd hn hf.1 hf.2.1 hf.2.2 hk) hf h a hA
theorem P1 (i:Nat)(is:List Nat)(hA:Ag a n E ds)(hi:ops[i]?=some o)(hr:∀w,(execOp a.eval o).run P w=.ok (.value v) w)
 (hk:rN n ops (fun f l E=>∀a,Ag a n E ds→aT P ops Q S X f l a w) is fuel (listed.setIfInBounds i true) ((d,v)::E))
 (hd:o.dst=some d:=by rfl) (hn:Nat.blt d n=true:=by rfl) (hw:gM ops o E=some true:=by rfl) (hf:iZ ops (i::is) listed=true:=by kernel_rfl) [hp:wV Q]:aT P ops Q S X (fuel+1) listed a w:=by
 simp only[iZ,Bool.and_eq_true]at hf;exact DG i hA hp.ok hi (oD hA hw) hd hn hf.1 hf.2.1 hf.2.2.1 hr fun a hA=>rX is hA hk hf.2.2.2
theorem X1 (i:Nat)(is:List Nat)(hA:Ag a n E ds)(hi:ops[i]?=some o)(hS:S w)(hr:∀w,S w→(execOp a.eval o).run P w=.ok (.value v) w)
 (hk:rN n ops (fun f l E=>∀a,Ag a n E ds→aT P ops Q S X f l a w) is fuel (listed.setIfInBounds i true) ((d,v)::E))
 (hd:o.dst=some d:=by rfl) (hn:Nat.blt d n=true:=by rfl) (hw:gM ops o E=some true:=by rfl) (hf:iZ ops (i::is) listed=true:=by kernel_rfl) (hc:nS ops listed=true:=by kernel_rfl) (hX:X.all (fun x=>rY ops ops.size x i)=true:=by kernel_rfl) [hp:wV Q]:aT P ops Q S X (fuel+1) listed a w:=by
 simp only[iZ,Bool.and_eq_true]at hf;exact GW i hA hp.ok hi (oD hA hw) hd hn hf.1 hf.2.1 hf.2.2.1 hc hX hS hr fun a hA=>rX is hA hk hf.2.2.2
end
def xK (E:Env):List Nat→Option Env
 | []=>some []
 | i :: l => match find i E with
   | some v => match xK E l with
     | some E'=>some ((i,v)::E')
     | none=>none
   | none=>none
theorem vm {E:Env}:∀ {l:List Nat} {E':Env},xK E l=some E'→nP E E'
 | [],E',h=>by cases h;exact trivial
 | i :: l, E', h => by
   simp only[xK]at h
   split at h
   ·
    rename_i v hv
    split at h
    ·
     rename_i E1 h1;cases h;exact⟨hv,vm h1⟩
    ·
     cases h
   ·
    cases h
theorem Ag.kp {a:Act}{n:Nat}{E E':Env}(h:Ag a n E ds)(l:List Nat)(k:xK E l=some E'):Ag a n E' ds:=h.tp (vm k)
section
variable {P:Program} {Q Q':Exit→Act→World→Prop} {n:Nat} {w w':World} {s:List vX} {E:Env} {a:Act} {ops:Array Oper} {r:List Oper} {o:Oper} {d:Nat} {v:Value} {c:Prop} [Decidable c] {b:Bool}
theorem Gl [hp:um P Q' Q s](k k':Nat)(hA:Ag a n E ds)(hr:(execOp a.eval o).run P w=.ok (.value (.bool (decide c))) w')(kt:c→kq P Q n ds w' k (.o ops r) s ((d,.bool true)::E))(kf:¬c→kq P Q n ds w' k' (.o ops r) s ((d,.bool false)::E))
 (hd:o.dst=some d:=by rfl) (hn:Nat.blt d n=true:=by rfl) (hw:gM ops o E=some true:=by rfl):wpList P ops Q' (o::r) a w:=by
 rw[hp.eq];exact Et hA (oD hA hw) hd hn hr (fun h=>kU k (kt h)) fun h=>kU k' (kf h)
theorem GM [hp:um P Q' Q s](k k':Nat)(hA:Ag a n E ds)(hr:(execOp a.eval o).run P w=.ok (.value (.bool b)) w')(kt:b=true→kq P Q n ds w' k (.o ops r) s ((d,.bool true)::E))(kf:b=false→kq P Q n ds w' k' (.o ops r) s ((d,.bool false)::E))
 (hd:o.dst=some d:=by rfl) (hn:Nat.blt d n=true:=by rfl) (hw:gM ops o E=some true:=by rfl):wpList P ops Q' (o::r) a w:=by
 rw[hp.eq];exact E9 hA (oD hA hw) hd hn hr (fun h=>kU k (kt h)) fun h=>kU k' (kf h)
end
end Go.Proofs.YtkjabaihpkbfhaaGreat.K
namespace Go.Proofs.YtkjabaihpkbfhaaGreat.K
open Go Go.RowKit
variable {ds:List Deferred}
def BX (E:Env)(x:Operand):Value:=match ez E x with
 | some v=>v
 | none=>undef
def okB (E:Env)(o:Op):Bool:=(match o with | .select _ _=>false | _=>true) && o.operands.toList.all fun x=>match ez E x with | some _=>true | none=>false
def iC (b:Bool)(p:Prop):Prop:=match b with | true=>p | false=>False
theorem cL {b:Bool}{p:Prop}(h:iC b p):b=true∧p:=by
 cases b
 ·
  exact h.elim
 ·
  exact⟨rfl,h⟩
def kO (n:Nat)(ops:Array Oper)(d:Nat)(o:Oper)(E:Env):Bool:=Nat.blt d n && ((match gM ops o E with | some true=>true | _=>false) && okB E o.op)
theorem dL {n:Nat}{ops:Array Oper}{d:Nat}{o:Oper}{E:Env}(h:kO n ops d o E=true):Nat.blt d n=true∧gM ops o E=some true∧okB E o.op=true:=by
 simp only[kO,Bool.and_eq_true]at h;refine⟨h.1,?_,h.2.2⟩;have:=h.2.1
 split at this
 ·
  assumption
 ·
  cases this
theorem qe {a:Act}{n:Nat}{E:Env}{o:Oper}(hA:Ag a n E ds)(h:okB E o.op=true):execOp a.eval o=execOp (BX E) o:=by
 unfold okB at h;simp only[Bool.and_eq_true,List.all_eq_true]at h;refine execOp_congr o (fun cs b e=>by rw[e]at h;cases h.1) fun x hx=>?_;have:=h.2 x (by simpa using hx);unfold BX
 split at this
 ·
  rename_i v hv;exact hA.ev hv
 ·
  cases this
def UL (P:Program)(ops:Array Oper)(Q:Exit→Act→World→Prop)(n:Nat)(ds:List Deferred)(w:World)(E:Env)(l:List Oper):Prop:=∀a,Ag a n E ds→wpList P ops Q l a w
def UC (P:Program)(Q:Exit→Act→World→Prop)(n:Nat)(ds:List Deferred)(w:World)(E:Env)(c:Code):Prop:=∀a,Ag a n E ds→c.wp P Q a w
def UQ (P:Program)(ops:Array Oper)(C:World→Prop)(Q:Act→Prop)(n:Nat)(ds:List Deferred)(E:Env)(l:List Oper):Prop:=∀a,Ag a n E ds→wpQuiet P ops C Q l a
def UT (P:Program)(ops:Array Oper)(w:World)(Q:Act→Prop)(n:Nat)(ds:List Deferred)(E:Env)(l:List Oper):Prop:=∀a,Ag a n E ds→wpStill P ops w Q l a
def UX (P:Program)(ops:Array Oper)(Q:Exit→Act→World→Prop)(S:World→Prop)(X:List Nat)(n:Nat)(ds:List Deferred)(w:World)(E:Env)(f:Nat)(l:Array Bool):Prop:=∀a,Ag a n E ds→aT P ops Q S X f l a w
section
variable {P:Program} {Q Q':Exit→Act→World→Prop} {n:Nat} {w w':World} {s:List vX} {E:Env} {ops:Array Oper} {l r:List Oper} {op:Op} {ty:TypeId} {ps:String} {af:Array Edge} {g:Option (Nat×Bool)} {d i fuel:Nat} {v:Value} {c:Prop} [Decidable c] {b:Bool}
theorem uC {x:Code}[hp:um P Q' Q s](k:Nat)(h:kq P Q n ds w k (.c x) s E):UC P Q' n ds w E x:=fun a hA=>rC k hA h
theorem uO [hp:um P Q' Q s](k:Nat)(h:kq P Q n ds w k (.o ops l) s E):UL P ops Q' n ds w E l:=fun a hA=>rO k hA h
theorem u1 [hp:um P Q' Q s](k:Nat)(hr:(execOp (BX E) ⟨some d,op,ty,ps,af,g⟩).run P w=.ok (.value v) w')(hk:iC (kO n ops d ⟨some d,op,ty,ps,af,g⟩ E) (kq P Q n ds w' k (.o ops r) s ((d,v)::E))):UL P ops Q' n ds w E (⟨some d,op,ty,ps,af,g⟩::r):=
 fun a hA=>o1 k hA (by rw[qe hA (dL (cL hk).1).2.2];exact hr) (cL hk).2 rfl (dL (cL hk).1).1 (dL (cL hk).1).2.1
theorem ba [hp:um P Q' Q s](k k':Nat)(hr:(execOp (BX E) ⟨some d,op,ty,ps,af,g⟩).run P w=.ok (.value (.bool (decide c))) w')(kt:c→iC (kO n ops d ⟨some d,op,ty,ps,af,g⟩ E) (kq P Q n ds w' k (.o ops r) s ((d,.bool true)::E)))(kf:¬c→iC (kO n ops d ⟨some d,op,ty,ps,af,g⟩ E) (kq P Q n ds w' k' (.o ops r) s ((d,.bool false)::E))):UL P ops Q' n ds w E (⟨some d,op,ty,ps,af,g⟩::r):=
 fun a hA=>by
  have hs:kO n ops d ⟨some d,op,ty,ps,af,g⟩ E=true:=by
   by_cases h:c
   ·
    exact (cL (kt h)).1
   ·
    exact (cL (kf h)).1
  exact Gl k k' hA (by rw[qe hA (dL hs).2.2];exact hr) (fun h=>(cL (kt h)).2) (fun h=>(cL (kf h)).2) rfl (dL hs).1 (dL hs).2.1
theorem lv [hp:um P Q' Q s](k k':Nat)(hr:(execOp (BX E) ⟨some d,op,ty,ps,af,g⟩).run P w=.ok (.value (.bool b)) w')(kt:b=true→iC (kO n ops d ⟨some d,op,ty,ps,af,g⟩ E) (kq P Q n ds w' k (.o ops r) s ((d,.bool true)::E)))(kf:b=false→iC (kO n ops d ⟨some d,op,ty,ps,af,g⟩ E) (kq P Q n ds w' k' (.o ops r) s ((d,.bool false)::E))):UL P ops Q' n ds w E (⟨some d,op,ty,ps,af,g⟩::r):=
 fun a hA=>by
  have hs:kO n ops d ⟨some d,op,ty,ps,af,g⟩ E=true:=by
   cases h:b
   ·
    exact (cL (kf h)).1
   ·
    exact (cL (kt h)).1
  exact GM k k' hA (by rw[qe hA (dL hs).2.2];exact hr) (fun h=>(cL (kt h)).2) (fun h=>(cL (kf h)).2) rfl (dL hs).1 (dL hs).2.1
variable {C:World→Prop} {Qa:Act→Prop}
theorem uQ (k:Nat)(h:rK n ops (fun l E=>∀a,Ag a n E ds→wpQuiet P ops C Qa l a) k l E):UQ P ops C Qa n ds E l:=fun a hA=>rQ k hA h
theorem bC (k:Nat)(hr:∀w,C w→(execOp (BX E) ⟨some d,op,ty,ps,af,g⟩).run P w=.ok (.value v) w)(hk:iC (kO n ops d ⟨some d,op,ty,ps,af,g⟩ E) (rK n ops (fun l E=>∀a,Ag a n E ds→wpQuiet P ops C Qa l a) k r ((d,v)::E))):UQ P ops C Qa n ds E (⟨some d,op,ty,ps,af,g⟩::r):=
 fun a hA=>Q1 k hA (fun w hC=>by rw[qe hA (dL (cL hk).1).2.2];exact hr w hC) (cL hk).2 rfl (dL (cL hk).1).1 (dL (cL hk).1).2.1
theorem dO (k:Nat)(hr:(execOp (BX E) ⟨some d,op,ty,ps,af,g⟩).run P w=.ok (.value v) w)(hk:iC (kO n ops d ⟨some d,op,ty,ps,af,g⟩ E) (rK n ops (fun l E=>∀a,Ag a n E ds→wpStill P ops w Qa l a) k r ((d,v)::E))):UT P ops w Qa n ds E (⟨some d,op,ty,ps,af,g⟩::r):=
 fun a hA=>T1 k hA (by rw[qe hA (dL (cL hk).1).2.2];exact hr) (cL hk).2 rfl (dL (cL hk).1).1 (dL (cL hk).1).2.1
variable {S:World→Prop} {X:List Nat} {listed:Array Bool}
theorem uX (is:List Nat)(h:rN n ops (fun f l E=>∀a,Ag a n E ds→aT P ops Q S X f l a w) is fuel listed E)(hf:iZ ops is listed=true:=by kernel_rfl)[hp:wV Q]:UX P ops Q S X n ds w E fuel listed:=fun a hA=>rX is hA h hf
theorem bF (i:Nat)(is:List Nat)(hi:ops[i]?=some ⟨some d,op,ty,ps,af,g⟩)(hr:∀w,(execOp (BX E) ⟨some d,op,ty,ps,af,g⟩).run P w=.ok (.value v) w)
 (hk:rN n ops (fun f l E=>∀a,Ag a n E ds→aT P ops Q S X f l a w) is fuel (listed.setIfInBounds i true) ((d,v)::E))
 (hn:Nat.blt d n=true:=by rfl) (hw:gM ops ⟨some d,op,ty,ps,af,g⟩ E=some true:=by rfl) (hf:iZ ops (i::is) listed=true:=by kernel_rfl) (ho:okB E op=true:=by rfl) [hp:wV Q]:UX P ops Q S X n ds w E (fuel+1) listed:=
 fun a hA=>P1 i is hA hi (fun w=>by rw[qe hA ho];exact hr w) hk rfl hn hw hf
theorem dH (i:Nat)(is:List Nat)(hi:ops[i]?=some ⟨some d,op,ty,ps,af,g⟩)(hS:S w)(hr:∀w,S w→(execOp (BX E) ⟨some d,op,ty,ps,af,g⟩).run P w=.ok (.value v) w)
 (hk:rN n ops (fun f l E=>∀a,Ag a n E ds→aT P ops Q S X f l a w) is fuel (listed.setIfInBounds i true) ((d,v)::E))
 (hn:Nat.blt d n=true:=by rfl) (hw:gM ops ⟨some d,op,ty,ps,af,g⟩ E=some true:=by rfl) (hf:iZ ops (i::is) listed=true:=by kernel_rfl) (hc:nS ops listed=true:=by kernel_rfl) (hX:X.all (fun x=>rY ops ops.size x i)=true:=by kernel_rfl) (ho:okB E op=true:=by rfl) [hp:wV Q]:UX P ops Q S X n ds w E (fuel+1) listed:=
 fun a hA=>X1 i is hA hi hS (fun w hS=>by rw[qe hA ho];exact hr w hS) hk rfl hn hw hf hc hX
end
end Go.Proofs.YtkjabaihpkbfhaaGreat.K
namespace Go.Proofs.YtkjabaihpkbfhaaGreat.K
open Go Go.RowKit
variable {ds:List Deferred}
section
variable {P:Program} {Q:Exit→Act→World→Prop} {n:Nat} {W w w':World} {E:Env} {L:List As} {ops:Array Oper} {rest:List Oper} {ty t e:TypeId} {ps:String} {af:Array Edge} {d:Nat} {x y:Operand} {fn:Func} {R:Ending→World→Prop}
theorem uF {f:Nat}{l:List Operand}{tys:Array TypeId}{vs:List Value}{R:Ending→World→Prop}(hf:enters P f=true)(hv:jN E l=some vs)(hc:Calls P f vs.toArray w R)
 (k:∀e w',R e w'→∃v,e=.returned v∧∀a',Ag a' n ((d,v)::E) ds→wpList P ops Q rest a' w') (hn:Nat.blt d n=true:=by rfl) :
 UL P ops Q n ds w E (⟨some d,.call { callee:=.value (.func f),args:=l.toArray,argTypes:=tys },ty,ps,af,none⟩::rest):=fun a hA=>wx hA hn hf hv hc k
theorem uB {v:Value}(hx:ez E x=some v)(s:Sat W w L)(k:∀b w',Sat W w' (aS b (.cells v.cells e)::L)→∀a',Ag a' n ((d,.pointer (some ⟨b,0,none⟩))::E) ds→wpList P ops Q rest a' w')(hn:Nat.blt d n=true:=by rfl) :
 UL P ops Q n ds w E (⟨some d,.box e x,ty,ps,af,none⟩::rest):=fun a hA=>GF hA hn hx s k
theorem uN {v:Value}(hz:(P.info? e).bind (·.zero)=some v)(s:Sat W w L)(k:∀b w',Sat W w' (aS b (.cells v.cells e)::L)→∀a',Ag a' n ((d,.pointer (some ⟨b,0,none⟩))::E) ds→wpList P ops Q rest a' w')(hn:Nat.blt d n=true:=by rfl) :
 UL P ops Q n ds w E (⟨some d,.alloc e,ty,ps,af,none⟩::rest):=fun a hA=>goN hA hn hz s k
theorem uW {b o:Nat}{vs cs cs':List Value}{t':TypeId}(hx:ez E x=some (.pointer (some ⟨b,o,none⟩)))(hy:ez E y=some (.agg vs.toArray))(h1:(P.info? t).map (·.size)=some vs.length)(s:Sat W w (aS b (.cells cs.toArray t' (0,0))::L))
 (k:∀w',Sat W w' (aS b (.cells cs'.toArray t' (0,0))::L)→UL P ops Q n ds w' E rest) (hv:∀v∈vs,v.oneCell'=true:=by simp[Value.oneCell']) (hl:Nat.ble (o+vs.length) cs.length=true:=by rfl) (hc:cs.take o++vs++cs.drop (o+vs.length)=cs':=by rfl) :
 UL P ops Q n ds w E (⟨none,.store t x y,ty,ps,af,none⟩::rest):=fun a hA=>E4 hA hx hy h1 hv s hl hc fun w' hS=>k w' hS a hA
theorem bt {t:Nat}{v:Value}(h:R (.returned v) w)(hr:fn.results=#[.tmp t]:=by rfl)(hv:find t E=some v:=by rfl):∀a,Ag a n E→bodyPost P fn R .ret a w:=fun a hA=>z1 hA hr hv h
theorem gT {t u:Nat}{v x:Value}(h:R (.returned (.tuple #[v,x])) w)(hr:fn.results=#[.tmp t,.tmp u]:=by rfl)(hv:find t E=some v:=by rfl)(hx:find u E=some x:=by rfl):∀a,Ag a n E→bodyPost P fn R .ret a w:=fun a hA=>BF hA hr hv hx h
end
section
variable {P:Program} {W w:World} {L:List As} {ρ:Operand→Value} {d:Option Tmp} {ty:TypeId} {ps:String} {af:Array Edge} {g:Option (Nat×Bool)}
theorem ld {t:Nat}{x:Operand}{p:Addr}{v:Value}(hx:ρ x=.pointer (some p))(ht:flat P t=true)(hc:w.cell? p=some v:=by first | exact hS.cell rfl | exact (hS.p 1).cell rfl | exact (hS.p 2).cell rfl | exact (hS.p 3).cell rfl | exact (hS.p 4).cell rfl | exact (hS.p 5).cell rfl):(execOp ρ ⟨d,.load t x,ty,ps,af,g⟩).run P w=.ok (.value v) w:=av hx ht hc
end
end Go.Proofs.YtkjabaihpkbfhaaGreat.K
namespace Go.Proofs.YtkjabaihpkbfhaaGreat.K
open Go Go.RowKit
theorem mJ {α:Type _}:∀(M:List α) (i:Nat) (A:α),M[i]?=some A→M.Perm (A::M.eraseIdx i)
 | [],i,A,h=>by simp at h
 | B::M,0,A,h=>by simp at h;subst h;exact .refl _
 | B::M,i+1,A,h=>((mJ M i A (by simpa using h)).cons B).trans (.swap ..)
theorem sK {α:Type _}:∀(M:List α) (i:Nat) (B:α),(M.set i B).eraseIdx i=M.eraseIdx i
 | [],_,_=>rfl
 | _::_,0,_=>rfl
 | A::M,i+1,B=>by simp[sK M i B]
theorem holds.vY {A:As}{M:List As}{h:Hp}(x:bR (A::M) h):star A (bR M) h:=x
section
variable {W w:World} {A B:As} {L M N:List As}
theorem Sat.jC (s:Sat W w L):Sat W w (bR []::L):=
 ⟨s.below,let ⟨h,x,y⟩:=s.own;⟨h,⟨fun _=>none,h,fun _=>.inl rfl,fun _ _ e=>(by cases e),Sub.refl h,trivial,x⟩,y⟩⟩
theorem Sat.y7 (s:Sat W w (bR (A::M)::L)):Sat W w (A::bR M::L):=(s.imp fun h x=>holds.vY x).open_
theorem Sat.oC (s:Sat W w (A::bR M::L)):Sat W w (bR (A::M)::L):=s.shut.imp fun h x=>x
theorem Sat.oL (p:M.Perm N)(s:Sat W w (bR M::L)):Sat W w (bR N::L):=s.imp fun h x=>holds.perm p h x
theorem Sat.sj (s:Sat W w (A::bR M::L)):Sat W w (bR (M++[A])::L):=s.oC.oL (List.perm_append_singleton A M).symm
theorem Sat.gy {i:Nat}(hi:M[i]?=some A)(s:Sat W w (bR M::L)):Sat W w (A::bR (M.eraseIdx i)::L):=(s.oL (mJ M i A hi)).y7
theorem Sat.uU {i:Nat}(hi:i<M.length)(s:Sat W w (B::bR (M.eraseIdx i)::L)):Sat W w (bR (M.set i B)::L):=by
 refine s.oC.oL ?_;have h:=mJ (M.set i B) i B (by rw[List.getElem?_set_self hi]);rw[sK]at h;exact h.symm
end
section
variable {P:Program} {w:World} {ρ:Operand→Value} {d:Option Tmp} {ty:TypeId} {ps:String} {af:Array Edge} {g:Option (Nat×Bool)} {t yt s:TypeId} {x y:Operand} {a b:Int} {k:IntKind}
theorem xz {u:TypeDesc}(hx:ρ x=.int k a)(hs:P.underlying s=some u)(ht:P.underlying t=some (.int .u8))(h0:0≤a)(h1:a≤255):(execOp ρ ⟨d,.convert s t x,ty,ps,af,g⟩).run P w=.ok (.value (.int .u8 a)) w:=
 qH hx hs ht h0 h1
theorem C9 (hx:ρ x=.int .u8 a)(hy:ρ y=.int .u8 b)(h0:0≤a+b)(h1:a+b≤255):(execOp ρ ⟨d,.binOp .add t x y yt,ty,ps,af,g⟩).run P w=.ok (.value (.int .u8 (a+b))) w:=
 CH hx hy h0 h1
end
end Go.Proofs.YtkjabaihpkbfhaaGreat.K
namespace Go.Proofs.YtkjabaihpkbfhaaGreat.K
open Go Go.RowKit
variable {ds:List Deferred}
def kT (P:Program)(t:TypeId):Bool:=match P.underlying t with | some (.interface _)=>false | none=>false | some _=>true
section
variable {P:Program} {ops:Array Oper} {Q:Exit→Act→World→Prop} {a:Act} {n:Nat} {E:Env} {w w' W:World} {rest:List Oper} {d:Nat} {o:Oper}
variable {ty t tx e:TypeId} {ps:String} {af:Array Edge} {g:Option (Nat×Bool)} {x y:Operand} {L:List As} {dd:Option Tmp} {fn:Func} {R:Ending→World→Prop}
theorem Er {f:FuncId}{args:Array Value}(hA:Ag a n E ds)(hg:o.guard=none)(hd:o.dst=some d)(hn:Nat.blt d n=true)
 (hr:(execOp a.eval o).run P w=.ok (.enter f args) w) (hc:Calls P f args w R)
 (k:∀e w',R e w'→(∃v,e=.returned v∧∀a',Ag a' n ((d,v)::E) ds→wpList P ops Q rest a' w')∨(∃ch,e=.panicked ch∧Q (.panic ch) a w')):wpList P ops Q (o::rest) a w:=by
 refine wpList_plain hg fun K hK=>?_;simp only[Oper.wp,hr,Oper.upon];refine hc.mono fun e w' h=>?_;rcases k e w' h with ⟨v,rfl,hk⟩ | ⟨ch,rfl,hq⟩
 ·
  show K (a.put o.dst v) w';rw[cn hd];exact hK _ _ (hk _ (hA.put hn v))
 ·
  exact hq
theorem cJ (hA:Ag a n E ds){f:Nat}{l:List Operand}{tys:Array TypeId}{vs:List Value}(hn:Nat.blt d n=true)(hf:enters P f=true)(hv:jN E l=some vs)(hc:Calls P f vs.toArray w R)
 (k:∀e w',R e w'→(∃v,e=.returned v∧∀a',Ag a' n ((d,v)::E) ds→wpList P ops Q rest a' w')∨(∃ch,e=.panicked ch∧Q (.panic ch) a w')) :
 wpList P ops Q (⟨some d,.call { callee:=.value (.func f),args:=l.toArray,argTypes:=tys },ty,ps,af,none⟩::rest) a w:=
 Er hA rfl rfl hn (lI hA hf hv) hc k
theorem tg (hA:Ag a n E ds){f:Nat}{l:List Operand}{tys:Array TypeId}{vs caps:List Value}(hf:enters P f=true)(hx:ez E x=some (.func (.func f) #[] caps.toArray))(hv:jN E l=some vs) :
 (execOp a.eval ⟨dd,.call { callee:=.value x,args:=l.toArray,argTypes:=tys },ty,ps,af,g⟩).run P w=.ok (.enter f (vs++caps).toArray) w:=by
 have h:=gW (w:=w) (args:=(vs++caps).toArray) hf;have hq:=hA.ev hx;have hv':l.map a.eval=vs:=hA.jN hv;have he:execOp a.eval ⟨dd,.call { callee:=.value x,args:=l.toArray,argTypes:=tys },ty,ps,af,g⟩=(Deferred.ofValue (a.eval x) (l.toArray.map a.eval)).bind fun d=>invoke d.target d.args:=rfl
 have hm:l.toArray.map a.eval=vs.toArray:=by simp[hv']
 have ha:(#[]++vs.toArray)++caps.toArray=(vs++caps).toArray:=by simp
 rw[he,hq,hm,Sem.run_bind'];show ((callFunc f ((#[]++vs.toArray)++caps.toArray)).run P w)=_;rw[ha,h]
theorem vZ (hA:Ag a n E ds){f:Nat}{l:List Operand}{tys:Array TypeId}{vs caps:List Value}(hn:Nat.blt d n=true)(hf:enters P f=true)(hx:ez E x=some (.func (.func f) #[] caps.toArray))(hv:jN E l=some vs)(hc:Calls P f (vs++caps).toArray w R)
 (k:∀e w',R e w'→(∃v,e=.returned v∧∀a',Ag a' n ((d,v)::E) ds→wpList P ops Q rest a' w')∨(∃ch,e=.panicked ch∧Q (.panic ch) a w')) :
 wpList P ops Q (⟨some d,.call { callee:=.value x,args:=l.toArray,argTypes:=tys },ty,ps,af,none⟩::rest) a w:=
 Er hA rfl rfl hn (tg hA hf hx hv) hc k
theorem tX {v:Value}{s:TypeId}{ρ:Operand→Value}(hx:ρ x=v)(hs:kT P s=true):(execOp ρ ⟨dd,.makeInterface s x,ty,ps,af,g⟩).run P w=.ok (.value (.iface s v)) w:=by
 unfold kT at hs;cases hu:P.underlying s with
 | none=>rw[hu]at hs;cases hs
 | some u =>
   rw[hu]at hs;cases u<;>first | (cases hs;done) | simp[execOp,Instr.makeInterface,hx,run_underlying hu,go_sem]
theorem nV {ρ:Operand→Value}{f:Nat}{l:List Operand}{vs:List Value}(hv:l.map ρ=vs):(execOp ρ ⟨dd,.makeFunc (.func f) #[] l.toArray,ty,ps,af,g⟩).run P w=.ok (.value (.func (.func f) #[] vs.toArray)) w:=by
 have he:execOp ρ ⟨dd,.makeFunc (.func f) #[] l.toArray,ty,ps,af,g⟩=(Sem.pure (Value.func (.func f) ((#[]:Array Operand).map ρ) (l.toArray.map ρ))).bind fun v=>Sem.pure (Next.value v):=rfl
 have h1:l.toArray.map ρ=vs.toArray:=by simp[hv]
 have h2:(#[]:Array Operand).map ρ=#[]:=by simp
 rw[he,h1,h2]
 rfl
theorem FW {v:Value}(hA:Ag a n E ds)(hx:ez E x=some (.iface t v))(h:Q (.panic [{ v:=.iface t v,recovered:=false }]) a w) :
 wpList P ops Q (⟨none,.panic x,ty,ps,af,none⟩::rest) a w:=by
 refine wpList_plain rfl fun K hK=>?_
 have hr:(execOp a.eval ⟨none,.panic x,ty,ps,af,none⟩).run P w=.halt (.panic (.iface t v)) w:=by
  have he:execOp a.eval ⟨none,.panic x,ty,ps,af,none⟩=(Instr.panic (a.eval x)).bind fun v=>Sem.pure (Next.value v):=rfl
  rw[he,hA.ev hx]
  rfl
 simp only[Oper.wp,hr,Oper.upon];exact h
theorem bV {ch:List PanicEntry}(hA:Ag a n E)(h:R (.panicked ch) w):bodyPost P fn R (.panic ch) a w:=⟨hA.defers,h⟩
end
def te (v:Value)(e:Ending):Prop:=∃older:List PanicEntry,e=.panicked ({ v:=v,recovered:=false }::older)∧older.all (fun x=>!x.goexit)=true
theorem te.one (v:Value):te v (.panicked [{ v:=v,recovered:=false }]):=⟨[],rfl,rfl⟩
end Go.Proofs.YtkjabaihpkbfhaaGreat.K
namespace Go.Proofs.YtkjabaihpkbfhaaGreat.K
open Go Go.RowKit
def wa (P:Program)(t:TypeId):Bool:=match P.underlying t with | some (.func _ _ _)=>true | _=>false
theorem wo {P:Program}{t:TypeId}(h:wa P t=true):∃p r v,P.underlying t=some (.func p r v):=by
 unfold wa at h;cases hu:P.underlying t with
 | none=>rw[hu]at h;cases h
 | some u =>
   rw[hu]at h;cases u<;>first | (cases h;done) | exact⟨_,_,_,rfl⟩
structure vL (ds:List Deferred)(a:Act)(n:Nat)(E:Env):Prop where
 base:Ag { a with defers:=[] } n E
 defers:a.defers=ds
section
variable {a:Act} {n:Nat} {E E':Env} {ds:List Deferred}
theorem vL.ev (h:vL ds a n E){x:Operand}{v:Value}(e:ez E x=some v):a.eval x=v:=h.base.ev e
theorem vL.put (h:vL ds a n E){d:Nat}(hd:Nat.blt d n=true)(v:Value):vL ds (a.put (some d) v) n ((d,v)::E):=⟨h.base.put hd v,h.defers⟩
theorem vL.tp (h:vL ds a n E)(k:nP E E'):vL ds a n E':=⟨h.base.tp k,h.defers⟩
end
section
variable {P:Program} {ops:Array Oper} {Q:Exit→Act→World→Prop} {a:Act} {n:Nat} {E:Env} {w w' W:World} {rest:List Oper} {d:Nat} {o:Oper} {ds:List Deferred} {v:Value}
variable {ty t tx e:TypeId} {ps:String} {af:Array Edge} {g:Option (Nat×Bool)} {x y:Operand} {L:List As} {dd:Option Tmp} {fn:Func} {R:Ending→World→Prop} {c:Prop} [Decidable c]
theorem Bp {f:Nat}{caps:List Value}(hA:Ag a n E)(hx:ez E x=some (.func (.func f) #[] caps.toArray))
 (k:∀a',vL [{ target:=.fn (.func f) caps.toArray,args:=#[] }] a' n E→wpList P ops Q rest a' w) :
 wpList P ops Q (⟨none,.defer { callee:=.value x,args:=#[],argTypes:=#[] },ty,ps,af,none⟩::rest) a w:=by
 refine wpList_plain rfl fun K hK=>?_
 have hr:(execOp a.eval ⟨none,.defer { callee:=.value x,args:=#[],argTypes:=#[] },ty,ps,af,none⟩).run P w=.ok (.defer { target:=.fn (.func f) caps.toArray,args:=#[] }) w:=by
  have he:execOp a.eval ⟨none,.defer { callee:=.value x,args:=#[],argTypes:=#[] },ty,ps,af,none⟩=(Deferred.ofValue (a.eval x) ((#[]:Array Operand).map a.eval)).bind fun d=>Sem.pure (.defer d):=rfl
  rw[he,hA.ev hx];have h2:(#[]:Array Operand).map a.eval=#[]:=by simp
  rw[h2]
  rfl
 simp only[Oper.wp,hr,Oper.upon];exact hK _ _ (k _ ⟨⟨hA.size,rfl,hA.at_⟩,by show _::a.defers=_;rw[hA.defers]⟩)
namespace D
theorem uo (hA:vL ds a n E)(hg:o.guard=none)(hd:o.dst=some d)(hn:Nat.blt d n=true)(hr:(execOp a.eval o).run P w=.ok (.value v) w')
 (k:∀a',vL ds a' n ((d,v)::E)→wpList P ops Q rest a' w'):wpList P ops Q (o::rest) a w:=by
 refine wpList_plain hg fun K hK=>?_;simp only[Oper.wp,hr,Oper.upon];rw[cn hd];exact hK _ _ (k _ (hA.put hn v))
theorem DE (hA:vL ds a n E)(hg:o.guard=none)(hd:o.dst=none)(hr:(execOp a.eval o).run P w=.ok .skip w')
 (k:wpList P ops Q rest a w'):wpList P ops Q (o::rest) a w:=by
 refine wpList_plain hg fun K hK=>?_;simp only[Oper.wp,hr,Oper.upon,hd];exact hK _ _ k
theorem vZ (hA:vL ds a n E){f:Nat}{l:List Operand}{tys:Array TypeId}{vs caps:List Value}(hn:Nat.blt d n=true)(hf:enters P f=true)(hx:ez E x=some (.func (.func f) #[] caps.toArray))(hv:jN E l=some vs)(hc:Calls P f (vs++caps).toArray w R)
 (k:∀e w',R e w'→(∃v,e=.returned v∧∀a',vL ds a' n ((d,v)::E)→wpList P ops Q rest a' w')∨(∃ch,e=.panicked ch∧Q (.panic ch) a w')) :
 wpList P ops Q (⟨some d,.call { callee:=.value x,args:=l.toArray,argTypes:=tys },ty,ps,af,none⟩::rest) a w:=by
 refine wpList_plain rfl fun K hK=>?_;have hr:=tg (P:=P) (w:=w) (dd:=some d) (ty:=ty) (ps:=ps) (af:=af) (g:=none) (tys:=tys) hA.base hf hx hv;have hr:(execOp a.eval ⟨some d,.call { callee:=.value x,args:=l.toArray,argTypes:=tys },ty,ps,af,none⟩).run P w=.ok (.enter f (vs++caps).toArray) w:=hr;simp only[Oper.wp,hr,Oper.upon];refine hc.mono fun e w' h=>?_;rcases k e w' h with ⟨v,rfl,hk⟩ | ⟨ch,rfl,hq⟩
 ·
  exact hK _ _ (hk _ (hA.put hn v))
 ·
  exact hq
theorem jQ {b j:Nat}{v u:Value}{cs:Array Value}{t':TypeId}(hA:vL ds a n E)(hx:ez E x=some (.pointer (some ⟨b,j,none⟩)))(hy:ez E y=some v)(ht:flat P t=true)(h1:(P.info? t).map (·.size)=some 1)(hv:v.oneCell'=true)
 (s:Sat W w (aS b (.cells cs t' (0,0))::L)) (hj:nth cs.toList j=some u) (k:∀w',Sat W w' (aS b (.cells (cs.setIfInBounds j v) t' (0,0))::L)→wpList P ops Q rest a w'):wpList P ops Q (⟨none,.store t x y,ty,ps,af,none⟩::rest) a w:=
 D.DE hA rfl rfl (pI (hA.ev hx) (hA.ev hy) ht h1 hv (s.cell hj) s.free) (k _ (s.store v))
end D
theorem Bs {f:FuncId}{c:Code}{args:List Value}(hf:P.funcs[f]?=some fn)(hb:fn.body=some c)(hn:fn.ntmps=n)(hs:Nat.ble args.length n=true)(hE:Holds args E)
 (k:∀a,Ag a n E→c.wp P (bodyPostD P fn R) a w):Calls P f args.toArray w R:=by
 subst hn;refine calls_of_wp_defers hf hb (k _ (Ag.enter args.toArray _ (by simpa using Nat.le_of_ble_eq_true hs) ?_));clear k hs
 induction E with
 | nil=>intro p hp;cases hp
 | cons q E' ih =>
   intro p hp;cases hp with
   | head=>have h:=hE.1;rw[ln]at h;simpa using h
   | tail _ hp=>exact ih hE.2 p hp
theorem BB {f:Nat}{caps:Array Value}{p r:Array TypeId}{v:Bool}(hs:P.underlying t=some (.func p r v)):(Op.equalIn Op.maxDepth t (.func (.func f) #[] caps) .nilFunc).run P w=.ok false w:=by
 obtain⟨m,hm⟩:∃m,Op.maxDepth=m+1:=⟨9999,rfl⟩;rw[hm];simp[Op.equalIn,run_underlying hs,go_sem]
theorem Dv {f:Nat}{caps:Array Value}{yt:TypeId}{ρ:Operand→Value}{p r:Array TypeId}{v:Bool}(hx:ρ x=.func (.func f) #[] caps)(hy:ρ y=.nilFunc)(hs:P.underlying t=some (.func p r v)):(execOp ρ ⟨dd,.binOp .neq t x y yt,ty,ps,af,g⟩).run P w=.ok (.value (.bool true)) w:=by
 simp[execOp,hx,hy,binOp,eqGuard,Op.equal,BB hs,Result.andThen,go_sem]
theorem xN {s xt:TypeId}{ρ:Operand→Value}(hx:ρ x=.iface s v)(hc:kT P s=true):(execOp ρ ⟨dd,.typeAssert x xt s true,ty,ps,af,g⟩).run P w=.ok (.value (.tuple #[v,.bool true])) w:=by
 unfold kT at hc;cases hu:P.underlying s with
 | none=>rw[hu]at hc;cases hc
 | some u =>
   rw[hu]at hc;cases u<;>first | (cases hc;done) | simp[execOp,Instr.typeAssert,hx,run_underlying hu,go_sem]
theorem xS {s xt:TypeId}{z:Value}{ρ:Operand→Value}(hx:ρ x=.nilIface)(hc:kT P s=true)(hz:(zeroValue s).run P w=.ok z w):(execOp ρ ⟨dd,.typeAssert x xt s true,ty,ps,af,g⟩).run P w=.ok (.value (.tuple #[z,.bool false])) w:=by
 unfold kT at hc;cases hu:P.underlying s with
 | none=>rw[hu]at hc;cases hc
 | some u =>
   rw[hu]at hc;cases u<;>first | (cases hc;done) | simp[execOp,Instr.typeAssert,hx,run_underlying hu,hz,Result.andThen,go_sem]
theorem vr {s xt t':TypeId}{z:Value}{ρ:Operand→Value}(hx:ρ x=.iface t' v)(hne:t'≠s)(hc:kT P s=true)(hz:(zeroValue s).run P w=.ok z w):(execOp ρ ⟨dd,.typeAssert x xt s true,ty,ps,af,g⟩).run P w=.ok (.value (.tuple #[z,.bool false])) w:=by
 unfold kT at hc;cases hu:P.underlying s with
 | none=>rw[hu]at hc;cases hc
 | some u =>
   rw[hu]at hc;cases u<;>first | (cases hc;done) | simp[execOp,Instr.typeAssert,hx,hne,run_underlying hu,hz,Result.andThen,go_sem]
theorem nB {z:Value}(hz:(P.info? t).bind (·.zero)=some z):(zeroValue t).run P w=.ok z w:=by
 cases hi:P.info? t with
 | none=>rw[hi]at hz;cases hz
 | some i =>
   rw[hi]at hz;have hz:i.zero=some z:=hz;simp[zeroValue,typeInfo,hi,hz,go_sem]
def isIface (P:Program)(t:TypeId):Bool:=match P.underlying t with | some (.interface _)=>true | _=>false
theorem ti {s:TypeId}{yt:TypeId}{ρ:Operand→Value}(hx:ρ x=.iface s v)(hy:ρ y=.nilIface)(hs:isIface P t=true):(execOp ρ ⟨dd,.binOp .neq t x y yt,ty,ps,af,g⟩).run P w=.ok (.value (.bool true)) w:=by
 unfold isIface at hs;cases hu:P.underlying t with
 | none=>rw[hu]at hs;cases hs
 | some u =>
   rw[hu]at hs;cases u<;>first | (cases hs;done) | skip
   obtain⟨m,hm⟩:∃m,Op.maxDepth=m+1:=⟨9999,rfl⟩;simp[execOp,hx,hy,binOp,eqGuard,Op.equal,hm,Op.equalIn,run_underlying hu,Result.andThen,go_sem]
theorem xn {yt:TypeId}{ρ:Operand→Value}(hx:ρ x=.nilIface)(hy:ρ (.const .nilIface)=.nilIface)(hs:isIface P t=true):(execOp ρ ⟨dd,.binOp .neq t x (.const .nilIface) yt,ty,ps,af,g⟩).run P w=.ok (.value (.bool false)) w:=by
 unfold isIface at hs;cases hu:P.underlying t with
 | none=>rw[hu]at hs;cases hs
 | some u =>
   rw[hu]at hs;cases u<;>first | (cases hs;done) | skip
   obtain⟨m,hm⟩:∃m,Op.maxDepth=m+1:=⟨9999,rfl⟩;simp[execOp,hx,hy,binOp,eqGuard,Op.equal,hm,Op.equalIn,run_underlying hu,Result.andThen,go_sem]
theorem zr {el:TypeId}{k:Nat}{p:Addr}{yt:TypeId}{ρ:Operand→Value}(hx:ρ x=.pointer (some p))(hy:ρ y=.pointer (some p))(ht:P.underlying t=some (.pointer el))(hz:(P.info? el).map (·.size)=some (k+1)):(execOp ρ ⟨dd,.binOp .neq t x y yt,ty,ps,af,g⟩).run P w=.ok (.value (.bool false)) w:=by
 obtain⟨i,hi,hk⟩:=Option.map_eq_some_iff.1 hz;obtain⟨m,hm⟩:∃m,Op.maxDepth=m+1:=⟨9999,rfl⟩;simp[execOp,hx,hy,binOp,eqGuard,Op.equal,hm,Op.equalIn,run_underlying ht,sizeOf,typeInfo,hi,hk,sameAddr,Result.andThen,go_sem]
end
end Go.Proofs.YtkjabaihpkbfhaaGreat.K
namespace Go.Proofs.YtkjabaihpkbfhaaGreat.K
open Go Go.RowKit
variable {ds:List Deferred}
section
variable {P:Program} {ops:Array Oper} {Q:Exit→Act→World→Prop} {a:Act} {n:Nat} {E:Env} {w w' W:World} {rest:List Oper} {d:Nat}
variable {ty t e tx:TypeId} {ps:String} {af:Array Edge} {x y:Operand} {L:List As}
theorem Cc {i:Nat}{K:Act→World→Prop}{f:Nat}{l:List Operand}{tys:Array TypeId}{vs:List Value}{R:Ending→World→Prop}(hA:Ag a n E ds)(hi:ops[i]?=some ⟨some d,.call { callee:=.value (.func f),args:=l.toArray,argTypes:=tys },ty,ps,af,none⟩)
 (hn:Nat.blt d n=true) (hf:enters P f=true) (hv:jN E l=some vs) (hc:Calls P f vs.toArray w R) (k:∀e w',R e w'→(∃v,e=.returned v∧∀a',Ag a' n ((d,v)::E) ds→K a' w')∨(∃ch,e=.panicked ch∧Q (.panic ch) a w')):wpOp P ops Q i K a w:=by
 unfold wpOp;simp only[hi];rw[if_pos (by simp[Region.wanted])];refine .inl ?_;simp only[Oper.wp,lI hA hf hv,Oper.upon];refine hc.mono fun e w' h=>?_;rcases k e w' h with ⟨v,rfl,hk⟩ | ⟨ch,rfl,hq⟩
 ·
  exact hk _ (hA.put hn v)
 ·
  exact hq
theorem Sat.Db {b m sz:Nat}{cs:List Value}(s:Sat W w (aS b (.cells cs.toArray e)::L))(hl:cs.length=m * sz)(hm:m≤9223372036854775807):Sat W w (row e sz (.slice (some ⟨b,0,none⟩) m m) m cs::L):=
 s.imp fun h hh=>.inr ⟨b,m,[],(0,0),rfl,Nat.le_refl _,hm,hl,by simpa using hl,jD.zero _,by rw[show h b=_ from hh];simp⟩
end
end Go.Proofs.YtkjabaihpkbfhaaGreat.K
namespace Go.Proofs.YtkjabaihpkbfhaaGreat.T
open Go Go.Proofs.YtkjabaihpkbfhaaGreat.K
theorem r4:Tryz.prog.underlying 3=some (.int .i64):=by kernel_rfl
theorem ry:Tryz.prog.underlying 5=some (.int .u8):=by kernel_rfl
theorem Bj:Tryz.prog.underlying 9=some (.string):=by kernel_rfl
theorem gk:Tryz.prog.underlying 22=some (.slice 72):=by kernel_rfl
theorem cR:Tryz.prog.underlying 26=some (.slice 5):=by kernel_rfl
theorem jc:Tryz.prog.underlying 44=some (.slice 68):=by kernel_rfl
theorem jm:Tryz.prog.underlying 48=some (.slice 74):=by kernel_rfl
theorem bz:Tryz.prog.underlying 59=some (.slice 216):=by kernel_rfl
theorem bu:Tryz.prog.underlying 60=some (.slice 3):=by kernel_rfl
theorem dZ:Tryz.prog.underlying 61=some (.slice 219):=by kernel_rfl
theorem cW:Tryz.prog.underlying 64=some (.slice 206):=by kernel_rfl
theorem zN:Tryz.prog.underlying 81=some (.slice 26):=by kernel_rfl
theorem gr:Tryz.prog.underlying 136=some (.slice 63):=by kernel_rfl
theorem si:Tryz.prog.underlying 186=some (.pointer 263):=by kernel_rfl
theorem Aj:Tryz.prog.underlying 196=some (.pointer 269):=by kernel_rfl
theorem AF:Tryz.prog.underlying 208=some (.int .u32):=by kernel_rfl
theorem mj:Tryz.prog.underlying 307=some (.array 3 26):=by kernel_rfl
theorem bo:Tryz.prog.underlying 326=some (.slice 357):=by kernel_rfl
theorem iY:Tryz.prog.underlying 355=some (.array 16 326):=by kernel_rfl
theorem xf:Tryz.prog.underlying 382=some (.slice 214):=by kernel_rfl
theorem zn:Tryz.prog.underlying 393=some (.slice 326):=by kernel_rfl
theorem bq:flat Tryz.prog 3=true:=by kernel_rfl
theorem kz:(Tryz.prog.info? 3).map (·.size)=some 1:=by kernel_rfl
theorem zR:flat Tryz.prog 4=true:=by kernel_rfl
theorem Co:(Tryz.prog.info? 4).map (·.size)=some 1:=by kernel_rfl
theorem F2:flat Tryz.prog 5=true:=by kernel_rfl
theorem DH:(Tryz.prog.info? 5).map (·.size)=some 1:=by kernel_rfl
theorem rZ:flat Tryz.prog 9=true:=by kernel_rfl
theorem gU:flat Tryz.prog 22=true:=by kernel_rfl
theorem DT:(Tryz.prog.info? 22).map (·.size)=some 1:=by kernel_rfl
theorem jE:ij Tryz.prog 24=true:=by kernel_rfl
theorem dY:(Tryz.prog.info? 24).map (·.size)=some 3:=by kernel_rfl
theorem ed:flat Tryz.prog 26=true:=by kernel_rfl
theorem gl:(Tryz.prog.info? 26).map (·.size)=some 1:=by kernel_rfl
theorem fZ:flat Tryz.prog 27=true:=by kernel_rfl
theorem oN:(Tryz.prog.info? 27).map (·.size)=some 1:=by kernel_rfl
theorem my:flat Tryz.prog 44=true:=by kernel_rfl
theorem B8:(Tryz.prog.info? 44).map (·.size)=some 1:=by kernel_rfl
theorem pg:ij Tryz.prog 46=true:=by kernel_rfl
theorem je:(Tryz.prog.info? 46).map (·.size)=some 3:=by kernel_rfl
theorem mB:flat Tryz.prog 48=true:=by kernel_rfl
theorem B5:(Tryz.prog.info? 48).map (·.size)=some 1:=by kernel_rfl
theorem po:ij Tryz.prog 50=true:=by kernel_rfl
theorem jn:(Tryz.prog.info? 50).map (·.size)=some 3:=by kernel_rfl
theorem nb:flat Tryz.prog 59=true:=by kernel_rfl
theorem Gb:(Tryz.prog.info? 59).map (·.size)=some 1:=by kernel_rfl
theorem gS:flat Tryz.prog 60=true:=by kernel_rfl
theorem FE:(Tryz.prog.info? 60).map (·.size)=some 1:=by kernel_rfl
theorem iM:flat Tryz.prog 61=true:=by kernel_rfl
theorem Dg:(Tryz.prog.info? 61).map (·.size)=some 1:=by kernel_rfl
theorem bj:ij Tryz.prog 63=true:=by kernel_rfl
theorem aC:(Tryz.prog.info? 63).map (·.size)=some 2:=by kernel_rfl
theorem nU:flat Tryz.prog 64=true:=by kernel_rfl
theorem Ge:(Tryz.prog.info? 64).map (·.size)=some 1:=by kernel_rfl
theorem jZ:ij Tryz.prog 66=true:=by kernel_rfl
theorem eE:(Tryz.prog.info? 66).map (·.size)=some 4:=by kernel_rfl
theorem EL:ij Tryz.prog 68=true:=by kernel_rfl
theorem s5:(Tryz.prog.info? 68).map (·.size)=some 5:=by kernel_rfl
theorem lb:ij Tryz.prog 70=true:=by kernel_rfl
theorem fA:(Tryz.prog.info? 70).map (·.size)=some 4:=by kernel_rfl
theorem pt:(Tryz.prog.info? 72).map (·.size)=some 9:=by kernel_rfl
theorem E2:ij Tryz.prog 74=true:=by kernel_rfl
theorem tO:(Tryz.prog.info? 74).map (·.size)=some 5:=by kernel_rfl
theorem Fv:ij Tryz.prog 94=true:=by kernel_rfl
theorem Fz:(Tryz.prog.info? 94).map (·.size)=some 0:=by kernel_rfl
theorem CW:ij Tryz.prog 109=true:=by kernel_rfl
theorem Ca:(Tryz.prog.info? 109).map (·.size)=some 0:=by kernel_rfl
theorem cw:flat Tryz.prog 196=true:=by kernel_rfl
theorem DY:(Tryz.prog.info? 196).map (·.size)=some 1:=by kernel_rfl
theorem iB:ij Tryz.prog 206=true:=by kernel_rfl
theorem bU:(Tryz.prog.info? 206).map (·.size)=some 3:=by kernel_rfl
theorem mh:ij Tryz.prog 214=true:=by kernel_rfl
theorem gO:(Tryz.prog.info? 214).map (·.size)=some 2:=by kernel_rfl
theorem lX:ij Tryz.prog 216=true:=by kernel_rfl
theorem fg:(Tryz.prog.info? 216).map (·.size)=some 4:=by kernel_rfl
theorem kA:ij Tryz.prog 219=true:=by kernel_rfl
theorem dE:(Tryz.prog.info? 219).map (·.size)=some 3:=by kernel_rfl
theorem AD:ij Tryz.prog 263=true:=by kernel_rfl
theorem zW:(Tryz.prog.info? 263).map (·.size)=some 2:=by kernel_rfl
theorem so:(Tryz.prog.info? 271).map (·.size)=some 1:=by kernel_rfl
theorem iA:flat Tryz.prog 326=true:=by kernel_rfl
theorem fH:(Tryz.prog.info? 326).map (·.size)=some 1:=by kernel_rfl
theorem iQ:ij Tryz.prog 357=true:=by kernel_rfl
theorem bP:(Tryz.prog.info? 357).map (·.size)=some 2:=by kernel_rfl
theorem AE:(Tryz.prog.info? 449).map (·.size)=some 2:=by kernel_rfl
theorem Fg:flat Tryz.prog 452=true:=by kernel_rfl
theorem D8:flat Tryz.prog 455=true:=by kernel_rfl
theorem EA:flat Tryz.prog 458=true:=by kernel_rfl
theorem vK:cN Tryz.prog 3=some (some (.int .i64 0),1,8):=by kernel_rfl
theorem uu:cN Tryz.prog 5=some (some (.int .u8 0),1,1):=by kernel_rfl
theorem F6:cN Tryz.prog 26=some (some (.slice none 0 0),1,24):=by kernel_rfl
theorem nR:cN Tryz.prog 63=some (some (.agg #[.slice none 0 0,.slice none 0 0]),2,48):=by kernel_rfl
theorem vt:cN Tryz.prog 68=some (some (.agg #[.int .i64 0,.slice none 0 0,.slice none 0 0,.slice none 0 0,.slice none 0 0]),5,104):=by kernel_rfl
theorem BD:cN Tryz.prog 72=some (some (.agg #[.int .i64 0,.slice none 0 0,.slice none 0 0,.slice none 0 0,.slice none 0 0,.slice none 0 0,.slice none 0 0,.slice none 0 0,.slice none 0 0]),9,200):=by kernel_rfl
theorem uG:cN Tryz.prog 74=some (some (.agg #[.int .i64 0,.slice none 0 0,.slice none 0 0,.slice none 0 0,.slice none 0 0]),5,104):=by kernel_rfl
theorem ki:cN Tryz.prog 206=some (some (.agg #[.string ⟨#[]⟩,.slice none 0 0,.slice none 0 0]),3,64):=by kernel_rfl
theorem FH:cN Tryz.prog 214=some (some (.agg #[.int .i64 0,.int .i64 0]),2,16):=by kernel_rfl
theorem fL:cN Tryz.prog 216=some (some (.agg #[.int .i64 0,.int .i64 0,.string ⟨#[]⟩,.int .i64 0]),4,40):=by kernel_rfl
theorem sd:cN Tryz.prog 219=some (some (.agg #[.int .i64 0,.int .i64 0,.int .i64 0]),3,24):=by kernel_rfl
theorem Eo:cN Tryz.prog 326=some (some (.slice none 0 0),1,24):=by kernel_rfl
theorem fv:cN Tryz.prog 357=some (some (.agg #[.int .i64 0,.int .i64 0]),2,16):=by kernel_rfl
theorem mY:(Tryz.prog.info? 24).bind (·.zero)=some (.agg #[.int .i64 0,.int .i64 0,.slice none 0 0]):=by kernel_rfl
theorem Gd:(Tryz.prog.info? 27).bind (·.zero)=some (.int .i64 0):=by kernel_rfl
theorem xY:(Tryz.prog.info? 46).bind (·.zero)=some (.agg #[.int .i64 0,.int .i64 0,.slice none 0 0]):=by kernel_rfl
theorem ze:(Tryz.prog.info? 50).bind (·.zero)=some (.agg #[.int .i64 0,.int .i64 0,.slice none 0 0]):=by kernel_rfl
theorem Gg:(Tryz.prog.info? 59).bind (·.zero)=some (.slice none 0 0):=by kernel_rfl
theorem db:(Tryz.prog.info? 63).bind (·.zero)=some (.agg #[.slice none 0 0,.slice none 0 0]):=by kernel_rfl
theorem F9:(Tryz.prog.info? 64).bind (·.zero)=some (.slice none 0 0):=by kernel_rfl
theorem rU:(Tryz.prog.info? 66).bind (·.zero)=some (.agg #[.slice none 0 0,.slice none 0 0,.slice none 0 0,.slice none 0 0]):=by kernel_rfl
theorem EU:(Tryz.prog.info? 68).bind (·.zero)=some (.agg #[.int .i64 0,.slice none 0 0,.slice none 0 0,.slice none 0 0,.slice none 0 0]):=by kernel_rfl
theorem vy:(Tryz.prog.info? 70).bind (·.zero)=some (.agg #[.slice none 0 0,.slice none 0 0,.slice none 0 0,.slice none 0 0]):=by kernel_rfl
theorem Fj:(Tryz.prog.info? 74).bind (·.zero)=some (.agg #[.int .i64 0,.slice none 0 0,.slice none 0 0,.slice none 0 0,.slice none 0 0]):=by kernel_rfl
theorem DN:(Tryz.prog.info? 94).bind (·.zero)=some (.agg #[]):=by kernel_rfl
theorem CA:(Tryz.prog.info? 109).bind (·.zero)=some (.agg #[]):=by kernel_rfl
theorem DO:(Tryz.prog.info? 196).bind (·.zero)=some (.pointer none):=by kernel_rfl
theorem nH:(Tryz.prog.info? 206).bind (·.zero)=some (.agg #[.string ⟨#[]⟩,.slice none 0 0,.slice none 0 0]):=by kernel_rfl
theorem zq:(Tryz.prog.info? 214).bind (·.zero)=some (.agg #[.int .i64 0,.int .i64 0]):=by kernel_rfl
theorem xx:(Tryz.prog.info? 216).bind (·.zero)=some (.agg #[.int .i64 0,.int .i64 0,.string ⟨#[]⟩,.int .i64 0]):=by kernel_rfl
theorem xR:(Tryz.prog.info? 219).bind (·.zero)=some (.agg #[.int .i64 0,.int .i64 0,.int .i64 0]):=by kernel_rfl
theorem l6:(Tryz.prog.info? 271).bind (·.zero)=some (.agg #[.pointer none]):=by kernel_rfl
theorem Ej:(Tryz.prog.info? 307).bind (·.zero)=some (.agg #[.slice none 0 0,.slice none 0 0,.slice none 0 0]):=by kernel_rfl
theorem lW:(Tryz.prog.info? 357).bind (·.zero)=some (.agg #[.int .i64 0,.int .i64 0]):=by kernel_rfl
theorem AB:(Tryz.prog.info? 449).bind (·.zero)=some (.agg #[.slice none 0 0,.bool false]):=by kernel_rfl
theorem ox:aO Tryz.prog 24 0=some (0,some 1):=by kernel_rfl
theorem ou:aO Tryz.prog 24 1=some (1,some 1):=by kernel_rfl
theorem cS:aO Tryz.prog 24 2=some (2,some 1):=by kernel_rfl
theorem qA:aO Tryz.prog 46 0=some (0,some 1):=by kernel_rfl
theorem qs:aO Tryz.prog 46 1=some (1,some 1):=by kernel_rfl
theorem fp:aO Tryz.prog 46 2=some (2,some 1):=by kernel_rfl
theorem rk:aO Tryz.prog 50 0=some (0,some 1):=by kernel_rfl
theorem rl:aO Tryz.prog 50 1=some (1,some 1):=by kernel_rfl
theorem fq:aO Tryz.prog 50 2=some (2,some 1):=by kernel_rfl
theorem cQ:aO Tryz.prog 63 0=some (0,some 1):=by kernel_rfl
theorem dg:aO Tryz.prog 63 1=some (1,some 1):=by kernel_rfl
theorem s4:aO Tryz.prog 66 0=some (0,some 1):=by kernel_rfl
theorem tH:aO Tryz.prog 66 1=some (1,some 2):=by kernel_rfl
theorem tJ:aO Tryz.prog 66 2=some (3,some 1):=by kernel_rfl
theorem ob:aO Tryz.prog 68 0=some (0,some 1):=by kernel_rfl
theorem Aw:aO Tryz.prog 68 1=some (1,some 4):=by kernel_rfl
theorem mx:aO Tryz.prog 70 0=some (0,some 1):=by kernel_rfl
theorem oH:aO Tryz.prog 70 1=some (1,some 2):=by kernel_rfl
theorem mG:aO Tryz.prog 70 2=some (3,some 1):=by kernel_rfl
theorem oR:aO Tryz.prog 72 0=some (0,some 1):=by kernel_rfl
theorem wA:aO Tryz.prog 72 1=some (1,some 4):=by kernel_rfl
theorem vN:aO Tryz.prog 72 2=some (5,some 4):=by kernel_rfl
theorem oe:aO Tryz.prog 74 0=some (0,some 1):=by kernel_rfl
theorem zS:aO Tryz.prog 74 1=some (1,some 4):=by kernel_rfl
theorem dk:aO Tryz.prog 206 0=some (0,some 1):=by kernel_rfl
theorem cd:aO Tryz.prog 206 1=some (1,some 2):=by kernel_rfl
theorem cD:aO Tryz.prog 214 0=some (0,some 1):=by kernel_rfl
theorem cT:aO Tryz.prog 214 1=some (1,some 1):=by kernel_rfl
theorem c5:aO Tryz.prog 216 0=some (0,some 2):=by kernel_rfl
theorem px:aO Tryz.prog 216 1=some (2,some 1):=by kernel_rfl
theorem py:aO Tryz.prog 216 2=some (3,some 1):=by kernel_rfl
theorem fB:aO Tryz.prog 219 0=some (0,some 1):=by kernel_rfl
theorem lr:aO Tryz.prog 219 1=some (1,some 1):=by kernel_rfl
theorem lT:aO Tryz.prog 219 2=some (2,some 1):=by kernel_rfl
theorem gf:aO Tryz.prog 263 0=some (0,some 1):=by kernel_rfl
theorem pG:aO Tryz.prog 263 1=some (1,some 1):=by kernel_rfl
theorem eH:aO Tryz.prog 269 0=some (0,some 1):=by kernel_rfl
theorem fC:aO Tryz.prog 269 1=some (1,some 1):=by kernel_rfl
theorem j4:aO Tryz.prog 269 2=some (2,some 1):=by kernel_rfl
theorem dX:aO Tryz.prog 269 3=some (3,some 1):=by kernel_rfl
theorem xl:aO Tryz.prog 271 0=some (0,some 1):=by kernel_rfl
theorem eB:aO Tryz.prog 357 0=some (0,some 1):=by kernel_rfl
theorem cI:aO Tryz.prog 357 1=some (1,some 1):=by kernel_rfl
theorem cG:aO Tryz.prog 449 0=some (0,some 2):=by kernel_rfl
theorem Cz  : ∀w,(Instr.build 24 #[]).run Tryz.prog w=.ok (.agg #[.int .i64 0,.int .i64 0,.slice none 0 0]) w:=fun w=>by kernel_rfl
theorem jB {x0:Int}{x1:Int}:∀w,(Instr.build 24 #[(0,.int .i64 x0),(1,.int .i64 x1)]).run Tryz.prog w=.ok (.agg #[.int .i64 x0,.int .i64 x1,.slice none 0 0]) w:=fun w=>by kernel_rfl
theorem xq  : ∀w,(Instr.build 46 #[]).run Tryz.prog w=.ok (.agg #[.int .i64 0,.int .i64 0,.slice none 0 0]) w:=fun w=>by kernel_rfl
theorem Am {x0:Int}{x1:Int}:∀w,(Instr.build 46 #[(0,.int .i64 x0),(1,.int .i64 x1)]).run Tryz.prog w=.ok (.agg #[.int .i64 x0,.int .i64 x1,.slice none 0 0]) w:=fun w=>by kernel_rfl
theorem w7  : ∀w,(Instr.build 50 #[]).run Tryz.prog w=.ok (.agg #[.int .i64 0,.int .i64 0,.slice none 0 0]) w:=fun w=>by kernel_rfl
theorem AS {x0:Int}{x1:Int}:∀w,(Instr.build 50 #[(0,.int .i64 x0),(1,.int .i64 x1)]).run Tryz.prog w=.ok (.agg #[.int .i64 x0,.int .i64 x1,.slice none 0 0]) w:=fun w=>by kernel_rfl
theorem xj  : ∀w,(Instr.build 63 #[]).run Tryz.prog w=.ok (.agg #[.slice none 0 0,.slice none 0 0]) w:=fun w=>by kernel_rfl
theorem Cg  : ∀w,(Instr.build 66 #[]).run Tryz.prog w=.ok (.agg #[.slice none 0 0,.slice none 0 0,.slice none 0 0,.slice none 0 0]) w:=fun w=>by kernel_rfl
theorem j0 {x0:Option Addr}{x0n x0c:Nat}{x1_0:Option Addr}{x1_0n x1_0c:Nat}{x1_1:Option Addr}{x1_1n x1_1c:Nat}{x2:Option Addr}{x2n x2c:Nat}:∀w,(Instr.build 66 #[(0,.slice x0 x0n x0c),(1,.agg #[.slice x1_0 x1_0n x1_0c,.slice x1_1 x1_1n x1_1c]),(2,.slice x2 x2n x2c)]).run Tryz.prog w=.ok (.agg #[.slice x0 x0n x0c,.slice x1_0 x1_0n x1_0c,.slice x1_1 x1_1n x1_1c,.slice x2 x2n x2c]) w:=fun w=>by kernel_rfl
theorem nO {x0:Int}{x1_0:Option Addr}{x1_0n x1_0c:Nat}{x1_1_0:Option Addr}{x1_1_0n x1_1_0c:Nat}{x1_1_1:Option Addr}{x1_1_1n x1_1_1c:Nat}{x1_2:Option Addr}{x1_2n x1_2c:Nat}:∀w,(Instr.build 68 #[(0,.int .i64 x0),(1,.agg #[.slice x1_0 x1_0n x1_0c,.slice x1_1_0 x1_1_0n x1_1_0c,.slice x1_1_1 x1_1_1n x1_1_1c,.slice x1_2 x1_2n x1_2c])]).run Tryz.prog w=.ok (.agg #[.int .i64 x0,.slice x1_0 x1_0n x1_0c,.slice x1_1_0 x1_1_0n x1_1_0c,.slice x1_1_1 x1_1_1n x1_1_1c,.slice x1_2 x1_2n x1_2c]) w:=fun w=>by kernel_rfl
theorem CU  : ∀w,(Instr.build 70 #[]).run Tryz.prog w=.ok (.agg #[.slice none 0 0,.slice none 0 0,.slice none 0 0,.slice none 0 0]) w:=fun w=>by kernel_rfl
theorem qt {x0:Option Addr}{x0n x0c:Nat}{x1_0:Option Addr}{x1_0n x1_0c:Nat}{x1_1:Option Addr}{x1_1n x1_1c:Nat}{x2:Option Addr}{x2n x2c:Nat}:∀w,(Instr.build 70 #[(0,.slice x0 x0n x0c),(1,.agg #[.slice x1_0 x1_0n x1_0c,.slice x1_1 x1_1n x1_1c]),(2,.slice x2 x2n x2c)]).run Tryz.prog w=.ok (.agg #[.slice x0 x0n x0c,.slice x1_0 x1_0n x1_0c,.slice x1_1 x1_1n x1_1c,.slice x2 x2n x2c]) w:=fun w=>by kernel_rfl
theorem zm {x0:Int}{x1_0:Option Addr}{x1_0n x1_0c:Nat}{x1_1_0:Option Addr}{x1_1_0n x1_1_0c:Nat}{x1_1_1:Option Addr}{x1_1_1n x1_1_1c:Nat}{x1_2:Option Addr}{x1_2n x1_2c:Nat}:∀w,(Instr.build 72 #[(0,.int .i64 x0),(1,.agg #[.slice x1_0 x1_0n x1_0c,.slice x1_1_0 x1_1_0n x1_1_0c,.slice x1_1_1 x1_1_1n x1_1_1c,.slice x1_2 x1_2n x1_2c])]).run Tryz.prog w=.ok (.agg #[.int .i64 x0,.slice x1_0 x1_0n x1_0c,.slice x1_1_0 x1_1_0n x1_1_0c,.slice x1_1_1 x1_1_1n x1_1_1c,.slice x1_2 x1_2n x1_2c,.slice none 0 0,.slice none 0 0,.slice none 0 0,.slice none 0 0]) w:=fun w=>by kernel_rfl
theorem Aq {x0:Int}{x2_0:Option Addr}{x2_0n x2_0c:Nat}{x2_1_0:Option Addr}{x2_1_0n x2_1_0c:Nat}{x2_1_1:Option Addr}{x2_1_1n x2_1_1c:Nat}{x2_2:Option Addr}{x2_2n x2_2c:Nat}:∀w,(Instr.build 72 #[(0,.int .i64 x0),(2,.agg #[.slice x2_0 x2_0n x2_0c,.slice x2_1_0 x2_1_0n x2_1_0c,.slice x2_1_1 x2_1_1n x2_1_1c,.slice x2_2 x2_2n x2_2c])]).run Tryz.prog w=.ok (.agg #[.int .i64 x0,.slice none 0 0,.slice none 0 0,.slice none 0 0,.slice none 0 0,.slice x2_0 x2_0n x2_0c,.slice x2_1_0 x2_1_0n x2_1_0c,.slice x2_1_1 x2_1_1n x2_1_1c,.slice x2_2 x2_2n x2_2c]) w:=fun w=>by kernel_rfl
theorem nh {x0:Int}{x1_0:Option Addr}{x1_0n x1_0c:Nat}{x1_1_0:Option Addr}{x1_1_0n x1_1_0c:Nat}{x1_1_1:Option Addr}{x1_1_1n x1_1_1c:Nat}{x1_2:Option Addr}{x1_2n x1_2c:Nat}:∀w,(Instr.build 74 #[(0,.int .i64 x0),(1,.agg #[.slice x1_0 x1_0n x1_0c,.slice x1_1_0 x1_1_0n x1_1_0c,.slice x1_1_1 x1_1_1n x1_1_1c,.slice x1_2 x1_2n x1_2c])]).run Tryz.prog w=.ok (.agg #[.int .i64 x0,.slice x1_0 x1_0n x1_0c,.slice x1_1_0 x1_1_0n x1_1_0c,.slice x1_1_1 x1_1_1n x1_1_1c,.slice x1_2 x1_2n x1_2c]) w:=fun w=>by kernel_rfl
theorem gY {x0:ByteArray}{x1_0:Option Addr}{x1_0n x1_0c:Nat}{x1_1:Option Addr}{x1_1n x1_1c:Nat}:∀w,(Instr.build 206 #[(0,.string x0),(1,.agg #[.slice x1_0 x1_0n x1_0c,.slice x1_1 x1_1n x1_1c])]).run Tryz.prog w=.ok (.agg #[.string x0,.slice x1_0 x1_0n x1_0c,.slice x1_1 x1_1n x1_1c]) w:=fun w=>by kernel_rfl
theorem sA {x0:Int}{x1:Int}:∀w,(Instr.build 214 #[(0,.int .i64 x0),(1,.int .i64 x1)]).run Tryz.prog w=.ok (.agg #[.int .i64 x0,.int .i64 x1]) w:=fun w=>by kernel_rfl
theorem o2 {x0_0:Int}{x0_1:Int}{x1:ByteArray}{x2:Int}:∀w,(Instr.build 216 #[(0,.agg #[.int .i64 x0_0,.int .i64 x0_1]),(1,.string x1),(2,.int .i64 x2)]).run Tryz.prog w=.ok (.agg #[.int .i64 x0_0,.int .i64 x0_1,.string x1,.int .i64 x2]) w:=fun w=>by kernel_rfl
theorem lh {x0:Int}{x1:Int}{x2:Int}:∀w,(Instr.build 219 #[(0,.int .i64 x0),(1,.int .i64 x1),(2,.int .i64 x2)]).run Tryz.prog w=.ok (.agg #[.int .i64 x0,.int .i64 x1,.int .i64 x2]) w:=fun w=>by kernel_rfl
theorem Dw  : ∀w,(Instr.build 263 #[]).run Tryz.prog w=.ok (.agg #[.slice none 0 0,.bool false]) w:=fun w=>by kernel_rfl
theorem yN {x0:Option Addr}{x0n x0c:Nat}{x2:Bool}:∀w,(Instr.build 269 #[(0,.slice x0 x0n x0c),(2,.bool x2)]).run Tryz.prog w=.ok (.agg #[.slice x0 x0n x0c,.int .i64 0,.bool x2,.int .i64 0]) w:=fun w=>by kernel_rfl
theorem BW {x0:Option Addr}:∀w,(Instr.build 271 #[(0,.pointer x0)]).run Tryz.prog w=.ok (.agg #[.pointer x0]) w:=fun w=>by kernel_rfl
theorem AN  : ∀w,(Instr.build 355 #[]).run Tryz.prog w=.ok (.agg #[.slice none 0 0,.slice none 0 0,.slice none 0 0,.slice none 0 0,.slice none 0 0,.slice none 0 0,.slice none 0 0,.slice none 0 0,.slice none 0 0,.slice none 0 0,.slice none 0 0,.slice none 0 0,.slice none 0 0,.slice none 0 0,.slice none 0 0,.slice none 0 0]) w:=fun w=>by kernel_rfl
theorem gZ {x0:Int}{x1:Int}:∀w,(Instr.build 357 #[(0,.int .i64 x0),(1,.int .i64 x1)]).run Tryz.prog w=.ok (.agg #[.int .i64 x0,.int .i64 x1]) w:=fun w=>by kernel_rfl
theorem sX {x0_0:Option Addr}{x0_0n x0_0c:Nat}{x0_1:Bool}:∀w,(Instr.build 449 #[(0,.agg #[.slice x0_0 x0_0n x0_0c,.bool x0_1])]).run Tryz.prog w=.ok (.agg #[.slice x0_0 x0_0n x0_0c,.bool x0_1]) w:=fun w=>by kernel_rfl
theorem GI {x_0:Int}{x_1:Int}{y_0:Int}{y_1:Int}:eqv Tryz.prog 20 214 (.agg #[.int .i64 x_0,.int .i64 x_1]) (.agg #[.int .i64 y_0,.int .i64 y_1])=some (decide (x_0=y_0∧x_1=y_1)):=by
 rw[show eqv Tryz.prog 20 214 (.agg #[.int .i64 x_0,.int .i64 x_1]) (.agg #[.int .i64 y_0,.int .i64 y_1])=some ((x_0 == y_0) && (x_1 == y_1)) from by kernel_rfl]
 congr 1
 rw[Bool.eq_iff_iff];simp only[Bool.and_eq_true,beq_iff_eq,wZ,decide_eq_true_eq,and_assoc]
theorem FX:Tryz.prog.eqGuardType Tryz.prog.depth 216=false:=by kernel_rfl
theorem Ep {x_0_0:Int}{x_0_1:Int}{x_1:ByteArray}{x_2:Int}{y_0_0:Int}{y_0_1:Int}{y_1:ByteArray}{y_2:Int}:eqv Tryz.prog 20 216 (.agg #[.int .i64 x_0_0,.int .i64 x_0_1,.string x_1,.int .i64 x_2]) (.agg #[.int .i64 y_0_0,.int .i64 y_0_1,.string y_1,.int .i64 y_2])=some (decide (x_0_0=y_0_0∧x_0_1=y_0_1∧x_1=y_1∧x_2=y_2)):=by
 rw[show eqv Tryz.prog 20 216 (.agg #[.int .i64 x_0_0,.int .i64 x_0_1,.string x_1,.int .i64 x_2]) (.agg #[.int .i64 y_0_0,.int .i64 y_0_1,.string y_1,.int .i64 y_2])=some (((x_0_0 == y_0_0) && (x_0_1 == y_0_1)) && ((x_1 == y_1) && (x_2 == y_2))) from by kernel_rfl]
 congr 1
 rw[Bool.eq_iff_iff];simp only[Bool.and_eq_true,beq_iff_eq,wZ,decide_eq_true_eq,and_assoc]
theorem CJ:Tryz.prog.eqGuardType Tryz.prog.depth 219=false:=by kernel_rfl
theorem CP {x_0:Int}{x_1:Int}{x_2:Int}{y_0:Int}{y_1:Int}{y_2:Int}:eqv Tryz.prog 20 219 (.agg #[.int .i64 x_0,.int .i64 x_1,.int .i64 x_2]) (.agg #[.int .i64 y_0,.int .i64 y_1,.int .i64 y_2])=some (decide (x_0=y_0∧x_1=y_1∧x_2=y_2)):=by
 rw[show eqv Tryz.prog 20 219 (.agg #[.int .i64 x_0,.int .i64 x_1,.int .i64 x_2]) (.agg #[.int .i64 y_0,.int .i64 y_1,.int .i64 y_2])=some ((x_0 == y_0) && ((x_1 == y_1) && (x_2 == y_2))) from by kernel_rfl]
 congr 1
 rw[Bool.eq_iff_iff];simp only[Bool.and_eq_true,beq_iff_eq,wZ,decide_eq_true_eq,and_assoc]
theorem FG:wa Tryz.prog 199=true:=by kernel_rfl
theorem Ek:kT Tryz.prog 94=true:=by kernel_rfl
theorem Ch:kT Tryz.prog 109=true:=by kernel_rfl
theorem qG:kT Tryz.prog 271=true:=by kernel_rfl
theorem Gh:enters Tryz.prog 10=true:=by kernel_rfl
theorem Ay:enters Tryz.prog 12=true:=by kernel_rfl
theorem Bg:enters Tryz.prog 13=true:=by kernel_rfl
theorem zu:enters Tryz.prog 15=true:=by kernel_rfl
theorem Bl:enters Tryz.prog 16=true:=by kernel_rfl
theorem De:enters Tryz.prog 18=true:=by kernel_rfl
theorem Gf:enters Tryz.prog 20=true:=by kernel_rfl
theorem Gq:enters Tryz.prog 21=true:=by kernel_rfl
theorem FB:enters Tryz.prog 38=true:=by kernel_rfl
theorem Em:enters Tryz.prog 39=true:=by kernel_rfl
theorem Gm:enters Tryz.prog 44=true:=by kernel_rfl
theorem Ga:enters Tryz.prog 45=true:=by kernel_rfl
theorem Gt:enters Tryz.prog 48=true:=by kernel_rfl
theorem F7:enters Tryz.prog 49=true:=by kernel_rfl
theorem Fq:enters Tryz.prog 50=true:=by kernel_rfl
theorem Gn:enters Tryz.prog 51=true:=by kernel_rfl
theorem Ft:enters Tryz.prog 55=true:=by kernel_rfl
theorem E5:enters Tryz.prog 88=true:=by kernel_rfl
theorem y2:enters Tryz.prog 89=true:=by kernel_rfl
theorem gF:enters Tryz.prog 90=true:=by kernel_rfl
theorem zt:enters Tryz.prog 91=true:=by kernel_rfl
theorem yg:enters Tryz.prog 92=true:=by kernel_rfl
theorem Dq:enters Tryz.prog 93=true:=by kernel_rfl
theorem FT:enters Tryz.prog 94=true:=by kernel_rfl
theorem Ed:enters Tryz.prog 97=true:=by kernel_rfl
theorem yu:enters Tryz.prog 98=true:=by kernel_rfl
theorem Gs:enters Tryz.prog 99=true:=by kernel_rfl
theorem fk:enters Tryz.prog 100=true:=by kernel_rfl
theorem iR:enters Tryz.prog 101=true:=by kernel_rfl
theorem uT:enters Tryz.prog 102=true:=by kernel_rfl
theorem rD:enters Tryz.prog 103=true:=by kernel_rfl
theorem Fm:enters Tryz.prog 104=true:=by kernel_rfl
theorem FO:enters Tryz.prog 105=true:=by kernel_rfl
theorem Cq:enters Tryz.prog 106=true:=by kernel_rfl
theorem EE:enters Tryz.prog 107=true:=by kernel_rfl
theorem sl:enters Tryz.prog 120=true:=by kernel_rfl
theorem re:enters Tryz.prog 121=true:=by kernel_rfl
theorem sx:enters Tryz.prog 125=true:=by kernel_rfl
theorem xr:enters Tryz.prog 144=true:=by kernel_rfl
theorem Ee:enters Tryz.prog 145=true:=by kernel_rfl
theorem Au:enters Tryz.prog 146=true:=by kernel_rfl
theorem DV:enters Tryz.prog 148=true:=by kernel_rfl
theorem uM:enters Tryz.prog 149=true:=by kernel_rfl
theorem Fl:enters Tryz.prog 150=true:=by kernel_rfl
theorem sy:enters Tryz.prog 151=true:=by kernel_rfl
theorem Cn:enters Tryz.prog 152=true:=by kernel_rfl
theorem DQ:enters Tryz.prog 155=true:=by kernel_rfl
theorem D9:enters Tryz.prog 156=true:=by kernel_rfl
theorem fO:enters Tryz.prog 157=true:=by kernel_rfl
theorem E6:enters Tryz.prog 158=true:=by kernel_rfl
theorem Fo:enters Tryz.prog 159=true:=by kernel_rfl
theorem CD:enters Tryz.prog 162=true:=by kernel_rfl
theorem Cm:enters Tryz.prog 163=true:=by kernel_rfl
theorem FD:enters Tryz.prog 170=true:=by kernel_rfl
theorem iu:enters Tryz.prog 191=true:=by kernel_rfl
theorem xB:enters Tryz.prog 192=true:=by kernel_rfl
theorem CT:enters Tryz.prog 193=true:=by kernel_rfl
theorem Ck:enters Tryz.prog 194=true:=by kernel_rfl
theorem Ec:enters Tryz.prog 195=true:=by kernel_rfl
theorem Ev:enters Tryz.prog 196=true:=by kernel_rfl
theorem FA:enters Tryz.prog 204=true:=by kernel_rfl
theorem ET:enters Tryz.prog 243=true:=by kernel_rfl
theorem Es:enters Tryz.prog 244=true:=by kernel_rfl
theorem Eu:enters Tryz.prog 245=true:=by kernel_rfl
theorem D7:enters Tryz.prog 246=true:=by kernel_rfl
theorem FP:enters Tryz.prog 247=true:=by kernel_rfl
theorem CG:enters Tryz.prog 248=true:=by kernel_rfl
theorem EV:enters Tryz.prog 252=true:=by kernel_rfl
theorem uS:enters Tryz.prog 253=true:=by kernel_rfl
theorem Fi:enters Tryz.prog 273=true:=by kernel_rfl
theorem FR:enters Tryz.prog 276=true:=by kernel_rfl
theorem FM:enters Tryz.prog 277=true:=by kernel_rfl
theorem ES:enters Tryz.prog 285=true:=by kernel_rfl
theorem DR:enters Tryz.prog 286=true:=by kernel_rfl
theorem El:enters Tryz.prog 288=true:=by kernel_rfl
theorem Fa:enters Tryz.prog 337=true:=by kernel_rfl
theorem EJ:enters Tryz.prog 339=true:=by kernel_rfl
theorem xH:enters Tryz.prog 342=true:=by kernel_rfl
theorem B9:enters Tryz.prog 343=true:=by kernel_rfl
theorem EI:enters Tryz.prog 346=true:=by kernel_rfl
theorem FN:enters Tryz.prog 347=true:=by kernel_rfl
theorem Ci:enters Tryz.prog 349=true:=by kernel_rfl
theorem CF:enters Tryz.prog 350=true:=by kernel_rfl
theorem qc:enters Tryz.prog 353=true:=by kernel_rfl
theorem CV:enters Tryz.prog 354=true:=by kernel_rfl
theorem Fp:enters Tryz.prog 358=true:=by kernel_rfl
theorem FC:enters Tryz.prog 359=true:=by kernel_rfl
theorem Cb:enters Tryz.prog 360=true:=by kernel_rfl
theorem D0:enters Tryz.prog 361=true:=by kernel_rfl
theorem DX:enters Tryz.prog 362=true:=by kernel_rfl
theorem EF:enters Tryz.prog 363=true:=by kernel_rfl
theorem EM:enters Tryz.prog 364=true:=by kernel_rfl
theorem ER:enters Tryz.prog 365=true:=by kernel_rfl
theorem Cv:enters Tryz.prog 366=true:=by kernel_rfl
theorem w4:enters Tryz.prog 367=true:=by kernel_rfl
theorem Fe:enters Tryz.prog 368=true:=by kernel_rfl
theorem Ey:enters Tryz.prog 369=true:=by kernel_rfl
theorem Fw:enters Tryz.prog 370=true:=by kernel_rfl
theorem Cr:enters Tryz.prog 375=true:=by kernel_rfl
theorem EN:enters Tryz.prog 376=true:=by kernel_rfl
theorem EP:enters Tryz.prog 377=true:=by kernel_rfl
theorem Cd:enters Tryz.prog 378=true:=by kernel_rfl
theorem EC:enters Tryz.prog 379=true:=by kernel_rfl
theorem DP:enters Tryz.prog 380=true:=by kernel_rfl
theorem E3:enters Tryz.prog 381=true:=by kernel_rfl
theorem EY:enters Tryz.prog 382=true:=by kernel_rfl
theorem Cy:enters Tryz.prog 383=true:=by kernel_rfl
theorem Fh:enters Tryz.prog 384=true:=by kernel_rfl
theorem Eb:enters Tryz.prog 385=true:=by kernel_rfl
theorem FI:enters Tryz.prog 386=true:=by kernel_rfl
theorem D1:enters Tryz.prog 387=true:=by kernel_rfl
theorem CM:enters Tryz.prog 388=true:=by kernel_rfl
theorem EZ:enters Tryz.prog 390=true:=by kernel_rfl
theorem AZ:enters Tryz.prog 391=true:=by kernel_rfl
theorem Cw:enters Tryz.prog 392=true:=by kernel_rfl
theorem DZ:enters Tryz.prog 393=true:=by kernel_rfl
theorem zL:enters Tryz.prog 394=true:=by kernel_rfl
theorem EW:enters Tryz.prog 395=true:=by kernel_rfl
theorem FV:enters Tryz.prog 396=true:=by kernel_rfl
theorem FL:enters Tryz.prog 397=true:=by kernel_rfl
theorem sF:enters Tryz.prog 398=true:=by kernel_rfl
theorem FK:enters Tryz.prog 399=true:=by kernel_rfl
theorem D4:enters Tryz.prog 400=true:=by kernel_rfl
theorem EH:enters Tryz.prog 401=true:=by kernel_rfl
theorem FF:enters Tryz.prog 402=true:=by kernel_rfl
theorem Ff:enters Tryz.prog 403=true:=by kernel_rfl
theorem E7:enters Tryz.prog 412=true:=by kernel_rfl
theorem CO:enters Tryz.prog 414=true:=by kernel_rfl
theorem ED:enters Tryz.prog 428=true:=by kernel_rfl
theorem Eh:enters Tryz.prog 430=true:=by kernel_rfl
theorem Ct:enters Tryz.prog 433=true:=by kernel_rfl
end Go.Proofs.YtkjabaihpkbfhaaGreat.T
namespace Go.Proofs.YtkjabaihpkbfhaaGreat.K
open Go Go.RowKit
variable {ds:List Deferred}
section
variable {P:Program} {ops:Array Oper} {Q:Exit→Act→World→Prop} {a:Act} {n:Nat} {E:Env} {w w' W:World} {d:Nat}
variable {ty:TypeId} {ps:String} {af:Array Edge} {gd:Option (Nat×Bool)}
theorem DJ {i:Nat}{K:Act→World→Prop}{f:Nat}{l:List Operand}{tys:Array TypeId}{vs:List Value}{R:Ending→World→Prop}(hA:Ag a n E ds)(hi:ops[i]?=some ⟨some d,.call { callee:=.value (.func f),args:=l.toArray,argTypes:=tys },ty,ps,af,gd⟩)
 (hw:Region.wanted ⟨some d,.call { callee:=.value (.func f),args:=l.toArray,argTypes:=tys },ty,ps,af,gd⟩ (yielded ops a.tmps)=true)
 (hn:Nat.blt d n=true) (hf:enters P f=true) (hv:jN E l=some vs) (hc:Calls P f vs.toArray w R) (k:∀e w',R e w'→∃v,e=.returned v∧∀a',Ag a' n ((d,v)::E) ds→K a' w'):wpOp P ops Q i K a w:=by
 unfold wpOp;simp only[hi];rw[if_pos hw];refine .inl ?_;simp only[Oper.wp,lI hA hf hv,Oper.upon];refine hc.mono fun e w' h=>?_;obtain⟨v,rfl,hk⟩:=k e w' h;exact hk _ (hA.put hn v)
end
end Go.Proofs.YtkjabaihpkbfhaaGreat.K
namespace Go.Proofs.YtkjabaihpkbfhaaGreat.K
open Go Go.RowKit
def rep (v:Value)(n:Nat):List Value:=List.replicate n v
end Go.Proofs.YtkjabaihpkbfhaaGreat.K
namespace Go.Proofs.YtkjabaihpkbfhaaGreat.K
open Go Go.RowKit
variable {ds:List Deferred}
section
variable {P:Program} {ops:Array Oper} {Q:Exit→Act→World→Prop} {a:Act} {n:Nat} {E:Env} {w W:World} {rest:List Oper} {d:Nat}
variable {ty t e:TypeId} {ps:String} {af:Array Edge} {x y:Operand} {L:List As}
theorem yK {ρ:Operand→Value}{dd:Option Tmp}{g:Option (Nat×Bool)}{sz m c k:Nat}{p q:Addr}{vs cs:List Value}(hx:ρ x=.pointer (some q))(hp:q=p.add k)(hy:ρ y=.agg vs.toArray)(h1:(P.info? t).map (·.size)=some vs.length)(hv:∀v∈vs,v.oneCell'=true)
 (s:Sat W w (row e sz (.slice (some p) m c) m cs::L)) (hk:k+vs.length≤cs.length) :
 ∃w',(execOp ρ ⟨dd,.store t x y,ty,ps,af,g⟩).run P w=.ok .skip w'∧Sat W w' (row e sz (.slice (some p) m c) m (cs.take k++vs++cs.drop (k+vs.length))::L):=by
 obtain⟨i,hi,hiz⟩:=Option.map_eq_some_iff.1 h1;subst hp;obtain⟨w',hr,s'⟩:=mw (P:=P) s hk hv;refine⟨w',?_,s'⟩
 have he:execOp ρ ⟨dd,.store t x y,ty,ps,af,g⟩=(storeVar t (p.add k) (.agg vs.toArray)).bind fun _=>Sem.pure Next.skip:=by
  show (Instr.storeAt t (ρ x) (ρ y)).bind (fun _=>Sem.pure Next.skip)=_;rw[hx,hy]
  rfl
 have h2:(storeVar t (p.add k) (.agg vs.toArray)).run P w=.ok () w':=by
  simp[storeVar,sizeOf,typeInfo,hi,Value.cells,hiz,hr,go_sem]
 rw[he,Sem.run_bind',h2]
 rfl
theorem CN {sz m c:Nat}(k:Nat){p q:Addr}{vs cs:List Value}(hA:Ag a n E ds)(hx:ez E x=some (.pointer (some q)))(hp:q=p.add k)(hy:ez E y=some (.agg vs.toArray))(h1:(P.info? t).map (·.size)=some vs.length)(hv:∀v∈vs,v.oneCell'=true)
 (s:Sat W w (row e sz (.slice (some p) m c) m cs::L)) (hk:k+vs.length≤cs.length)
 (kk:∀w',Sat W w' (row e sz (.slice (some p) m c) m (cs.take k++vs++cs.drop (k+vs.length))::L)→wpList P ops Q rest a w'):wpList P ops Q (⟨none,.store t x y,ty,ps,af,none⟩::rest) a w:=by
 obtain⟨w',hr,s'⟩:=yK (dd:=none) (ty:=ty) (ps:=ps) (af:=af) (g:=none) (hA.ev hx) hp (hA.ev hy) h1 hv s hk;exact DE hA rfl rfl hr (kk w' s')
end
end Go.Proofs.YtkjabaihpkbfhaaGreat.K
namespace Go.Proofs.YtkjabaihpkbfhaaGreat.Wk
open Go Go.RowKit Go.Proofs.YtkjabaihpkbfhaaGreat Go.Proofs.YtkjabaihpkbfhaaGreat.K
abbrev aX:=Int×Int
def eO:Int:=1000000000
theorem dq:eO=1000000000:=rfl
def bn (l:List aX)(n:Int):Prop:=∃r∈l,r.1≤n∧n≤r.2
theorem AT (n:Int):bn [] n↔False:=by simp[bn]
theorem bA (r:aX)(l:List aX)(n:Int):bn (r::l) n↔(r.1≤n∧n≤r.2)∨bn l n:=by simp[bn]
theorem cz (l m:List aX)(n:Int):bn (l++m) n↔bn l n∨bn m n:=by simp[bn,or_and_right,exists_or]
theorem gw (r:aX)(n:Int):bn [r] n↔r.1≤n∧n≤r.2:=by simp[bn]
def can:List aX→Prop
 | []=>True
 | r::l=>1≤r.1∧r.1≤r.2∧r.2≤eO∧(∀s∈l,r.2+1<s.1)∧can l
theorem can.tail {r:aX}{l:List aX}(h:can (r::l)):can l:=h.2.2.2.2
theorem can.each:∀ {l:List aX},can l→∀s∈l,1≤s.1∧s.1≤s.2∧s.2≤eO
 | _ :: _, h, s, hs => by
   rcases List.mem_cons.1 hs with rfl | hs
   ·
    exact⟨h.1,h.2.1,h.2.2.1⟩
   ·
    exact can.each h.tail s hs
theorem can.bounds {l:List aX}(h:can l){n:Int}(hn:bn l n):1≤n∧n≤eO:=by
 obtain⟨s,hs,h1,h2⟩:=hn;have:=h.each s hs;omega
theorem can.me {r:aX}{l:List aX}(h:can (r::l)){n:Int}(hn:bn l n):r.2+1<n:=by
 obtain⟨s,hs,h1,h2⟩:=hn;have:=h.2.2.2.1 s hs;omega
theorem can.head_mem {r:aX}{l:List aX}(h:can (r::l)):bn (r::l) r.1∧bn (r::l) r.2∧¬bn (r::l) (r.2+1):=by
 refine⟨(bA _ _ _).2 (.inl ⟨Int.le_refl _,h.2.1⟩),(bA _ _ _).2 (.inl ⟨h.2.1,Int.le_refl _⟩),fun hn=>?_⟩;rcases (bA _ _ _).1 hn with hn | hn
 ·
  omega
 ·
  have:=h.me hn;omega
theorem xm:∀ {l m:List aX},can l→can m→(∀n,bn l n↔bn m n)→l=m
 | [],[],_,_,_=>rfl
 | [],r::m,_,hm,h=>absurd ((h r.1).2 hm.head_mem.1) (by simp[bn])
 | r::l,[],hl,_,h=>absurd ((h r.1).1 hl.head_mem.1) (by simp[bn])
 | r :: l, s :: m, hl, hm, h => by
   have h1:r.1=s.1:=by
    have a:=(h r.1).1 hl.head_mem.1;have b:=(h s.1).2 hm.head_mem.1
    have a1:s.1≤r.1:=by
     rcases (bA _ _ _).1 a with a | a
     ·
      exact a.1
     ·
      have:=hm.me a;have:=hm.2.1;omega
    have b1:r.1≤s.1:=by
     rcases (bA _ _ _).1 b with b | b
     ·
      exact b.1
     ·
      have:=hl.me b;have:=hl.2.1;omega
    omega
   have h2:r.2=s.2:=by
    have hr:=hl.2.1;have hs:=hm.2.1;have a:¬r.2+1≤s.2:=fun hlt=>hl.head_mem.2.2 ((h (r.2+1)).2 ((bA _ _ _).2 (.inl ⟨by omega,hlt⟩)))
    have b:¬s.2+1≤r.2:=fun hlt=>hm.head_mem.2.2 ((h (s.2+1)).1 ((bA _ _ _).2 (.inl ⟨by omega,hlt⟩)))
    omega
   have e:r=s:=Prod.ext h1 h2;subst e
   congr 1
   refine xm hl.tail hm.tail fun n=>?_;constructor
   ·
    intro hn;rcases (bA _ _ _).1 ((h n).1 ((bA _ _ _).2 (.inr hn))) with hx | hx
    ·
     have:=hl.me hn;omega
    ·
     exact hx
   ·
    intro hn;rcases (bA _ _ _).1 ((h n).2 ((bA _ _ _).2 (.inr hn))) with hx | hx
    ·
     have:=hm.me hn;omega
    ·
     exact hx
def gx (r:aX):Option aX:=if max r.1 1≤min r.2 eO then some (max r.1 1,min r.2 eO) else none
def mR (r:aX):List aX→List aX
 | []=>[r]
 | x::l=>if r.2+1<x.1 then r::x::l else if x.2+1<r.1 then x::mR r l else mR (min r.1 x.1,max r.2 x.2) l
termination_by l=>l.length
theorem Be (r:aX)(l:List aX)(hr:r.1≤r.2)(hl:can l):∀n,bn (mR r l) n↔(r.1≤n∧n≤r.2)∨bn l n:=by
 intro n
 induction l generalizing r with
 | nil=>rw[mR,gw];simp[bn]
 | cons x l ih =>
   rw[mR]
   split
   ·
    rw[bA]
   ·
    split
    ·
     rw[bA,ih r hr hl.tail,bA];constructor<;>(rintro (h | h | h)<;>simp[h])
    ·
     have hx:=hl.2.1;rw[ih _ (by simp only;omega) hl.tail,bA];simp only;constructor
     ·
      rintro (h | h)
      ·
       by_cases h2:r.1≤n∧n≤r.2
       ·
        exact .inl h2
       ·
        exact .inr (.inl (by omega))
      ·
       exact .inr (.inr h)
     ·
      rintro (h | h | h)
      ·
       exact .inl (by omega)
      ·
       exact .inl (by omega)
      ·
       exact .inr h
theorem Bf (r:aX)(l:List aX)(h1:1≤r.1)(hr:r.1≤r.2)(h2:r.2≤eO)(hl:can l):can (mR r l)∧∀b:Int,b+1<r.1→(∀s∈l,b+1<s.1)→∀s∈mR r l,b+1<s.1:=by
 induction l generalizing r with
 | nil =>
   rw[mR];exact⟨⟨h1,hr,h2,(fun s hs=>by cases hs),trivial⟩,fun b hb _ s hs=>by simp at hs;subst hs;exact hb⟩
 | cons x l ih =>
   have hx:=hl.2.1;have hx1:=hl.1;have hx2:=hl.2.2.1;rw[mR]
   split
   ·
    rename_i hlt;refine⟨⟨h1,hr,h2,fun s hs=>?_,hl⟩,fun b hb hq s hs=>?_⟩
    ·
     rcases List.mem_cons.1 hs with rfl | hs
     ·
      exact hlt
     ·
      have:=hl.2.2.2.1 s hs;omega
    ·
     rcases List.mem_cons.1 hs with rfl | hs
     ·
      exact hb
     ·
      exact hq s hs
   ·
    split
    ·
     rename_i hgt;obtain⟨hc,hb⟩:=ih r h1 hr h2 hl.tail;refine⟨⟨hx1,hx,hx2,hb x.2 hgt hl.2.2.2.1,hc⟩,fun b hb2 hq s hs=>?_⟩;rcases List.mem_cons.1 hs with rfl | hs
     ·
      exact hq _ (by simp)
     ·
      exact hb b hb2 (fun s hs=>hq s (by simp[hs])) s hs
    ·
     obtain⟨hc,hb⟩:=ih (min r.1 x.1,max r.2 x.2) (by simp only;omega) (by simp only;omega) (by simp only;omega) hl.tail;refine⟨hc,fun b hb2 hq s hs=>?_⟩;have:=hq x (by simp);exact hb b (by simp only;omega) (fun s hs=>hq s (by simp[hs])) s hs
def aq (l:List aX):List aX:=l.foldr (fun r acc=>match gx r with | some c=>mR c acc | none=>acc) []
theorem jW {r c:aX}(h:gx r=some c):1≤c.1∧c.1≤c.2∧c.2≤eO∧∀n,(c.1≤n∧n≤c.2)↔(1≤n∧n≤eO∧r.1≤n∧n≤r.2):=by
 unfold gx at h
 split at h
 ·
  cases h;refine⟨by simp only;omega,by simp only;omega,by simp only;omega,fun n=>by simp only;omega⟩
 ·
  cases h
theorem qa {r:aX}(h:gx r=none):∀n,¬(1≤n∧n≤eO∧r.1≤n∧n≤r.2):=by
 unfold gx at h
 split at h
 ·
  cases h
 ·
  intro n;omega
theorem oo:∀l:List aX,can (aq l)∧∀n,bn (aq l) n↔(1≤n∧n≤eO∧bn l n)
 | []=>⟨trivial,fun n=>by simp[aq,bn]⟩
 | r :: l => by
   obtain⟨hc,hm⟩:=oo l;have e:aq (r::l)=match gx r with | some c=>mR c (aq l) | none=>aq l:=rfl
   rw[e];cases h:gx r with
   | none =>
     refine⟨hc,fun n=>?_⟩;have hn:=qa h n;simp only;rw[hm,bA];constructor
     ·
      rintro ⟨a,b,c⟩;exact⟨a,b,.inr c⟩
     ·
      rintro ⟨a,b,c | c⟩
      ·
       exact absurd ⟨a,b,c⟩ hn
      ·
       exact⟨a,b,c⟩
   | some c =>
     obtain⟨h1,h2,h3,h4⟩:=jW h;refine⟨(Bf c _ h1 h2 h3 hc).1,fun n=>?_⟩;simp only;rw[Be c _ h2 hc,h4,hm,bA];constructor
     ·
      rintro (⟨a,b,d⟩ | ⟨a,b,d⟩)
      ·
       exact⟨a,b,.inl d⟩
      ·
       exact⟨a,b,.inr d⟩
     ·
      rintro ⟨a,b,d | d⟩
      ·
       exact .inl ⟨a,b,d⟩
      ·
       exact .inr ⟨a,b,d⟩
theorem dj (l:List aX):can (aq l):=(oo l).1
theorem lF (l:List aX)(n:Int):bn (aq l) n↔(1≤n∧n≤eO∧bn l n):=(oo l).2 n
theorem kP {l m:List aX}(hm:can m)(h:∀n,bn m n↔(1≤n∧n≤eO∧bn l n)):m=aq l:=xm hm (dj l) fun n=>by rw[h,lF]
theorem qZ {l:List aX}(h:can l):aq l=l:=(kP h fun n=>⟨fun hn=>⟨(h.bounds hn).1,(h.bounds hn).2,hn⟩,fun hn=>hn.2.2⟩).symm
theorem vA {l m:List aX}(h:∀n,1≤n→n≤eO→(bn l n↔bn m n)):aq l=aq m:=kP (dj l) fun n=>by
 rw[lF];constructor
 ·
  rintro ⟨a,b,c⟩;exact⟨a,b,(h n a b).1 c⟩
 ·
  rintro ⟨a,b,c⟩;exact⟨a,b,(h n a b).2 c⟩
theorem ix {l m:List aX}(hl:can l)(hm:can m)(h:∀r∈l,∀s∈m,r.2+1<s.1):can (l++m):=by
 induction l with
 | nil=>exact hm
 | cons x l ih =>
   refine⟨hl.1,hl.2.1,hl.2.2.1,fun s hs=>?_,ih hl.tail fun r hr=>h r (by simp[hr])⟩;rcases List.mem_append.1 hs with hs | hs
   ·
    exact hl.2.2.2.1 s hs
   ·
    exact h x (by simp) s hs
theorem ue {l m:List aX}(h:can (l++m)):can l:=by
 induction l with
 | nil=>trivial
 | cons x l ih=>exact⟨h.1,h.2.1,h.2.2.1,fun s hs=>h.2.2.2.1 s (by simp[hs]),ih h.2.2.2.2⟩
theorem y5 {l m:List aX}(h:can (l++m)):can m:=by
 induction l with
 | nil=>exact h
 | cons x l ih=>exact ih h.2.2.2.2
theorem yP {l m:List aX}(h:can (l++m)):∀r∈l,∀s∈m,r.2+1<s.1:=by
 induction l with
 | nil=>intro r hr;cases hr
 | cons x l ih =>
   intro r hr s hs;rcases List.mem_cons.1 hr with rfl | hr
   ·
    exact h.2.2.2.1 s (by simp[hs])
   ·
    exact ih h.2.2.2.2 r hr s hs
def ew (out:List aX)(r:aX):List aX:=match out.getLast? with
 | none=>[r]
 | some x=>if r.1≤x.2+1 then out.dropLast++[(x.1,max x.2 r.2)] else out++[r]
theorem Bi (r:aX):ew [] r=[r]:=rfl
theorem jA (out:List aX)(x r:aX):ew (out++[x]) r=if r.1≤x.2+1 then out++[(x.1,max x.2 r.2)] else out++[x]++[r]:=by
 unfold ew;simp
theorem Ax {out:List aX}{r:aX}(ho:can out)(h1:1≤r.1)(hr:r.1≤r.2)(h2:r.2≤eO)(hs:∀s∈out,s.1≤r.1):can (ew out r)∧(∀n,bn (ew out r) n↔bn out n∨(r.1≤n∧n≤r.2))∧∀s∈ew out r,s.1≤r.1:=by
 rcases List.eq_nil_or_concat out with rfl | ⟨o,x,rfl⟩
 ·
  rw[Bi];exact⟨⟨h1,hr,h2,(fun s hs=>by cases hs),trivial⟩,fun n=>by simp[bn],fun s hs=>by simp at hs;subst hs;exact Int.le_refl _⟩
 ·
  rw[List.concat_eq_append]at *;have hx:=(y5 ho);have hxr:=hs x (by simp);rw[jA];have hc:=yP ho
  split
  ·
   rename_i hle;refine⟨ix (ue ho) ⟨hx.1,by have:=hx.2.1;simp only;omega,by have:=hx.2.2.1;simp only;omega,(fun s hs=>by cases hs),trivial⟩ fun a ha b hb=>?_,fun n=>?_,fun s hs2=>?_⟩
   ·
    simp at hb;subst hb;exact hc a ha x (by simp)
   ·
    have:=hx.2.1;simp only[cz,gw];constructor
    ·
     rintro (h | h)
     ·
      exact .inl (.inl h)
     ·
      by_cases hn:n≤x.2
      ·
       exact .inl (.inr ⟨h.1,hn⟩)
      ·
       exact .inr (by omega)
    ·
     rintro ((h | h) | h)
     ·
      exact .inl h
     ·
      exact .inr (by omega)
     ·
      exact .inr (by omega)
   ·
    rcases List.mem_append.1 hs2 with h | h
    ·
     exact hs s (by simp[h])
    ·
     simp at h;subst h;exact hxr
  ·
   rename_i hgt;refine⟨ix ho ⟨h1,hr,h2,(fun s hs=>by cases hs),trivial⟩ fun a ha b hb=>?_,fun n=>by rw[cz _ [r],gw],fun s hs2=>?_⟩
   ·
    simp at hb;subst hb;rcases List.mem_append.1 ha with ha | ha
    ·
     have:=hc a ha x (by simp);have:=hx.2.1;omega
    ·
     simp at ha;subst ha;omega
   ·
    rcases List.mem_append.1 hs2 with h | h
    ·
     exact hs s h
    ·
     simp at h;subst h;exact Int.le_refl _
theorem mO:∀(l out:List aX),can out→(∀r∈l,1≤r.1∧r.1≤r.2∧r.2≤eO)→(∀s∈out,∀r∈l,s.1≤r.1)→l.Pairwise (fun a b=>a.1≤b.1)→
 can (l.foldl ew out)∧∀n,bn (l.foldl ew out) n↔bn out n∨bn l n
 | [],out,ho,_,_,_=>⟨ho,fun n=>by simp[bn]⟩
 | r :: l, out, ho, hl, hs, hp => by
   obtain⟨h1,h2,h3⟩:=hl r (by simp);obtain⟨c1,c2,c3⟩:=Ax ho h1 h2 h3 (fun s h=>hs s h r (by simp));obtain⟨d1,d2⟩:=mO l (ew out r) c1 (fun s h=>hl s (by simp[h])) (fun s h t ht=>Int.le_trans (c3 s h) ((List.pairwise_cons.1 hp).1 t ht)) (List.pairwise_cons.1 hp).2;refine⟨d1,fun n=>?_⟩;rw[List.foldl_cons,d2,c2,bA,or_assoc]
def cC:List aX→List aX→List aX
 | [],_=>[]
 | _::_,[]=>[]
 | x::xs,y::ys=>(if max x.1 y.1≤min x.2 y.2 then [(max x.1 y.1,min x.2 y.2)] else [])++(if x.2<y.2 then cC xs (y::ys) else cC (x::xs) ys)
termination_by x y=>x.length+y.length
theorem sE (x:List aX):cC x []=[]:=by cases x<;>simp[cC]
theorem mQ (x y:aX)(xs ys:List aX):cC (x::xs) (y::ys)=(if max x.1 y.1≤min x.2 y.2 then [(max x.1 y.1,min x.2 y.2)] else [])++(if x.2<y.2 then cC xs (y::ys) else cC (x::xs) ys):=by rw[cC]
theorem lS:∀(k:Nat) (xs ys:List aX),xs.length+ys.length≤k→can xs→can ys→can (cC xs ys)∧(∀n,bn (cC xs ys) n↔bn xs n∧bn ys n)
 | k,[],ys,_,_,_=>by rw[show cC [] ys=[] from by simp[cC]];exact⟨trivial,fun n=>by simp[bn]⟩
 | k,x::xs,[],_,_,_=>by rw[sE];exact⟨trivial,fun n=>by simp[bn]⟩
 | 0,x::xs,y::ys,hk,_,_=>by simp at hk
 | k + 1, x :: xs, y :: ys, hk, hx, hy => by
   rw[mQ];have hx1:=hx.2.1;have hy1:=hy.2.1
   by_cases hlt:x.2<y.2
   ·
    rw[if_pos hlt];obtain⟨c1,c2⟩:=lS k xs (y::ys) (by simp at hk ⊢;omega) hx.tail hy;have hmem:∀n,bn (cC xs (y::ys)) n→x.2+1<n:=fun n hn=>hx.me ((c2 n).1 hn).1
    have habove:∀s∈cC xs (y::ys),x.2+1<s.1:=fun s hs=>hmem s.1 ⟨s,hs,Int.le_refl _,(c1.each s hs).2.1⟩
    refine⟨?_,fun n=>?_⟩
    ·
     split
     ·
      refine ix (l:=[_]) ⟨by have:=hx.1;simp only;omega,by assumption,by have:=hx.2.2.1;simp only;omega,(fun s hs=>by cases hs),trivial⟩ c1 fun a ha b hb=>?_;simp at ha;subst ha;have:=habove b hb;simp only;omega
     ·
      exact c1
    ·
     rw[cz,c2,bA x xs,bA y ys]
     have e:bn (if max x.1 y.1≤min x.2 y.2 then [(max x.1 y.1,min x.2 y.2)] else []) n↔(x.1≤n∧n≤x.2)∧(y.1≤n∧n≤y.2):=by
      split
      ·
       rw[gw];simp only;omega
      ·
       simp[bn];omega
     rw[e];constructor
     ·
      rintro (⟨a,b⟩ | ⟨a,b⟩)
      ·
       exact⟨.inl a,.inl b⟩
      ·
       exact⟨.inr a,b⟩
     ·
      rintro ⟨a | a,b | b⟩
      ·
       exact .inl ⟨a,b⟩
      ·
       have:=hy.me b;omega
      ·
       exact .inr ⟨a,.inl b⟩
      ·
       exact .inr ⟨a,.inr b⟩
   ·
    rw[if_neg hlt];obtain⟨c1,c2⟩:=lS k (x::xs) ys (by simp at hk ⊢;omega) hx hy.tail;have hmem:∀n,bn (cC (x::xs) ys) n→y.2+1<n:=fun n hn=>hy.me ((c2 n).1 hn).2
    have habove:∀s∈cC (x::xs) ys,y.2+1<s.1:=fun s hs=>hmem s.1 ⟨s,hs,Int.le_refl _,(c1.each s hs).2.1⟩
    refine⟨?_,fun n=>?_⟩
    ·
     split
     ·
      refine ix (l:=[_]) ⟨by have:=hx.1;simp only;omega,by assumption,by have:=hx.2.2.1;simp only;omega,(fun s hs=>by cases hs),trivial⟩ c1 fun a ha b hb=>?_;simp at ha;subst ha;have:=habove b hb;simp only;omega
     ·
      exact c1
    ·
     rw[cz,c2,bA x xs,bA y ys]
     have e:bn (if max x.1 y.1≤min x.2 y.2 then [(max x.1 y.1,min x.2 y.2)] else []) n↔(x.1≤n∧n≤x.2)∧(y.1≤n∧n≤y.2):=by
      split
      ·
       rw[gw];simp only;omega
      ·
       simp[bn];omega
     rw[e];constructor
     ·
      rintro (⟨a,b⟩ | ⟨a,b⟩)
      ·
       exact⟨.inl a,.inl b⟩
      ·
       exact⟨a,.inr b⟩
     ·
      rintro ⟨a | a,b | b⟩
      ·
       exact .inl ⟨a,b⟩
      ·
       exact .inr ⟨.inl a,b⟩
      ·
       have:=hx.me a;omega
      ·
       exact .inr ⟨.inr a,b⟩
theorem yV {x y:List aX}(hx:can x)(hy:can y):can (cC x y):=(lS _ x y (Nat.le_refl _) hx hy).1
theorem xX {x y:List aX}(hx:can x)(hy:can y)(n:Int):bn (cC x y) n↔bn x n∧bn y n:=(lS _ x y (Nat.le_refl _) hx hy).2 n
def iK:Int→List aX→List aX
 | next,[]=>if next≤eO then [(next,eO)] else []
 | next,r::l=>(if next<r.1 then [(next,r.1-1)] else [])++iK (r.2+1) l
theorem qQ:∀(l:List aX) (next:Int),can l→1≤next→(∀s∈l,next≤s.1)→can (iK next l)∧(∀n,bn (iK next l) n↔next≤n∧n≤eO∧¬bn l n)
 | [], next, _, h1, _ => by
   unfold iK
   split
   ·
    refine⟨⟨h1,by assumption,Int.le_refl _,(fun s hs=>by cases hs),trivial⟩,fun n=>?_⟩;rw[gw];simp[bn]
   ·
    refine⟨trivial,fun n=>?_⟩;simp[bn];omega
 | r :: l, next, hl, h1, hs => by
   have hr:=hl.2.1;have hr1:=hl.1;have hr2:=hl.2.2.1;obtain⟨c1,c2⟩:=qQ l (r.2+1) hl.tail (by omega) (fun s h=>by have:=hl.2.2.2.1 s h;omega);have hn:=hs r (by simp);have habove:∀s∈iK (r.2+1) l,r.2+1≤s.1:=fun s hs=>((c2 s.1).1 ⟨s,hs,Int.le_refl _,(c1.each s hs).2.1⟩).1
   rw[show iK next (r::l)=(if next<r.1 then [(next,r.1-1)] else [])++iK (r.2+1) l from rfl];refine⟨?_,fun n=>?_⟩
   ·
    split
    ·
     refine ix (l:=[_]) ⟨h1,by simp only;omega,by simp only;omega,(fun s hs=>by cases hs),trivial⟩ c1 fun a ha b hb=>?_;simp at ha;subst ha;have:=habove b hb;simp only;omega
    ·
     exact c1
   ·
    rw[cz,c2,bA r l]
    have e:bn (if next<r.1 then [(next,r.1-1)] else []) n↔next≤n∧n<r.1:=by
     split
     ·
      rw[gw];simp only;omega
     ·
      simp[bn];omega
    rw[e];constructor
    ·
     rintro (⟨a,b⟩ | ⟨a,b,c⟩)
     ·
      refine⟨a,by omega,fun h=>?_⟩;rcases h with h | h
      ·
       omega
      ·
       have:=hl.me h;omega
     ·
      refine⟨by omega,b,fun h=>?_⟩;rcases h with h | h
      ·
       omega
      ·
       exact c h
    ·
     rintro ⟨a,b,c⟩
     by_cases hlt:n<r.1
     ·
      exact .inl ⟨a,hlt⟩
     ·
      refine .inr ⟨?_,b,fun h=>c (.inr h)⟩;have:¬(r.1≤n∧n≤r.2):=fun h=>c (.inl h)
      omega
theorem tM {l:List aX}(h:can l):can (iK 1 l):=(qQ l 1 h (by omega) fun s hs=>(h.each s hs).1).1
theorem B7 {l:List aX}(h:can l)(n:Int):bn (iK 1 l) n↔1≤n∧n≤eO∧¬bn l n:=(qQ l 1 h (by omega) fun s hs=>(h.each s hs).1).2 n
def dK (a b:List aX):List aX:=cC a (iK 1 b)
theorem ot {a b:List aX}(ha:can a)(hb:can b):can (dK a b):=yV ha (tM hb)
theorem sP {a b:List aX}(ha:can a)(hb:can b)(n:Int):bn (dK a b) n↔bn a n∧¬bn b n:=by
 unfold dK;rw[xX ha (tM hb),B7 hb];constructor
 ·
  rintro ⟨h1,_,_,h2⟩;exact⟨h1,h2⟩
 ·
  rintro ⟨h1,h2⟩;exact⟨h1,(ha.bounds h1).1,(ha.bounds h1).2,h2⟩
def aQ:List aX→Int×List aX
 | []=>(0,[])
 | r::l=>if r.1=1 then (r.2,l) else (0,r::l)
theorem ie (r:aX)(l:List aX):aQ (r::l)=if r.1=1 then (r.2,l) else (0,r::l):=rfl
theorem kJ {l:List aX}(h:can l):0≤(aQ l).1∧(aQ l).1≤eO∧can (aQ l).2∧(∀s∈(aQ l).2,(aQ l).1+1<s.1)∧∀n,bn l n↔(1≤n∧n≤(aQ l).1)∨bn (aQ l).2 n:=by
 cases l with
 | nil=>exact⟨by simp[aQ],by simp[aQ,eO],trivial,(fun s hs=>by cases hs),fun n=>by simp[aQ,bn];omega⟩
 | cons r l =>
   have h1:=h.1;have h2:=h.2.1;have h3:=h.2.2.1;rw[ie]
   split
   ·
    rename_i h0;refine⟨by simp only;omega,h3,h.tail,h.2.2.2.1,fun n=>?_⟩;rw[bA,h0]
   ·
    refine⟨Int.le_refl _,by simp[eO],h,fun s hs=>?_,fun n=>?_⟩
    ·
     simp only;rcases List.mem_cons.1 hs with rfl | hs
     ·
      omega
     ·
      have:=h.2.2.2.1 s hs;omega
    ·
     simp only;constructor
     ·
      exact .inr
     ·
      rintro (a | a)
      ·
       omega
      ·
       exact a
def de (l:List aX):Int:=l.foldr (fun r n=>r.2-r.1+1+n) 0
theorem fK:∀ {l:List aX},can l→0≤de l∧(de l=0↔l=[])
 | [],_=>by simp[de]
 | r :: l, h => by
   have:=(fK h.tail).1;have h2:=h.2.1;have e:de (r::l)=r.2-r.1+1+de l:=rfl;rw[e];exact⟨by omega,⟨fun h=>by omega,fun h=>by cases h⟩⟩
theorem pX:∀ {l:List aX} {b:Int},can l→0≤b→(∀s∈l,b<s.1)→de l≤eO-b∨l=[]
 | [],_,_,_,_=>.inr rfl
 | r :: l, b, h, hb, hs => by
   have h2:=h.2.1;have h3:=h.2.2.1;have h4:=hs r (by simp);have e:de (r::l)=r.2-r.1+1+de l:=rfl;rw[e];rcases pX h.tail (show 0≤r.2 by omega) (fun s hs=>by have:=h.2.2.2.1 s hs;omega) with h5 | h5
   ·
    left;omega
   ·
    left;subst h5;simp[de];omega
structure aF where
 rep:Int
 lo:Int
 hi:Int
structure aB where
 vec:List Int
 ad:List aF
def bc (c:List aF)(r:Nat):List aX:=c.filterMap fun s=>if s.rep=(r:Int) then some (s.lo,s.hi) else none
def bY (p:aB)(r:Nat):List aX:=(match p.vec[r]? with | some v=>[(1,v)] | none=>[])++bc p.ad r
def bf (p:aB)(r:Nat):List aX:=aq (bY p r)
theorem bH (p:aB)(r:Nat):can (bf p r):=dj _
def bW (f:Nat→Int):Nat→Nat
 | 0=>0
 | k+1=>if 0<f k then k+1 else bW f k
theorem lq (f:Nat→Int):∀k,bW f k≤k
 | 0=>Nat.le_refl _
 | k + 1 => by
   unfold bW
   split
   ·
    exact Nat.le_refl _
   ·
    have:=lq f k;omega
theorem mP (f:Nat→Int):∀k r,bW f k≤r→r<k→f r≤0
 | 0,r,_,h=>by omega
 | k + 1, r, h, h2 => by
   unfold bW at h
   split at h
   ·
    omega
   ·
    by_cases e:r=k
    ·
     subst e;omega
    ·
     exact mP f k r h (by omega)
theorem sg (f:Nat→Int):∀k,0<bW f k→0<f (bW f k-1)
 | 0,h=>by simp[bW]at h
 | k + 1, h => by
   unfold bW at h ⊢
   split
   ·
    rw[Nat.add_sub_cancel];assumption
   ·
    rename_i h0;rw[if_neg h0]at h;exact sg f k h
def bw (f:Nat→List aX)(r:Nat):Int:=(aQ (f r)).1
def aN (f:Nat→List aX)(r:Nat):List aF:=(aQ (f r)).2.map fun s=>⟨(r:Int),s.1,s.2⟩
def eY (f:Nat→List aX):aB:=⟨(List.range (bW (bw f) 16)).map (bw f),(List.range 16).flatMap (aN f)⟩
theorem kB (c d:List aF)(r:Nat):bc (c++d) r=bc c r++bc d r:=by simp[bc]
theorem tN (f:Nat→List aX)(k r:Nat):bc (aN f k) r=if k=r then (aQ (f r)).2 else []:=by
 unfold bc aN;rw[List.filterMap_map]
 by_cases h:k=r
 ·
  subst h;rw[if_pos rfl];have e:(fun s:aF=>if s.rep=(k:Int) then some (s.lo,s.hi) else none) ∘ (fun s:aX=>(⟨(k:Int),s.1,s.2⟩:aF))=some:=by funext s;simp
  rw[e,List.filterMap_some]
 ·
  rw[if_neg h];have e:(fun s:aF=>if s.rep=(r:Int) then some (s.lo,s.hi) else none) ∘ (fun s:aX=>(⟨(k:Int),s.1,s.2⟩:aF))=fun _=>none:=by funext s;simp;omega
  rw[e];simp
theorem nn (f:Nat→List aX)(r:Nat):∀k,bc ((List.range k).flatMap (aN f)) r=if r<k then (aQ (f r)).2 else []
 | 0=>by simp[bc]
 | k + 1 => by
   rw[List.range_succ,List.flatMap_append,kB,nn f r k,List.flatMap_singleton,tN]
   by_cases h:r<k
   ·
    rw[if_pos h,if_neg (by omega),if_pos (by omega),List.append_nil]
   ·
    by_cases e:k=r
    ·
     rw[if_neg h,if_pos e,if_pos (by omega),List.nil_append]
    ·
     rw[if_neg h,if_neg e,if_neg (by omega),List.nil_append]
theorem gj {f:Nat→List aX}(h:∀r,can (f r)){r:Nat}(hr:r<16):bf (eY f) r=f r:=by
 refine (kP (h r) fun n=>?_).symm;obtain⟨h1,h2,h3,h4,h5⟩:=kJ (h r);have hb:∀n,bn (f r) n→1≤n∧n≤eO:=fun n hn=>(h r).bounds hn
 have hc:bc (eY f).ad r=(aQ (f r)).2:=by
  show bc ((List.range 16).flatMap (aN f)) r=_;rw[nn,if_pos hr]
 unfold bY;rw[hc,cz]
 have hv:bn (match (eY f).vec[r]? with | some v=>[((1:Int),v)] | none=>[]) n↔1≤n∧n≤(aQ (f r)).1:=by
  show bn (match ((List.range (bW (bw f) 16)).map (bw f))[r]? with | some v=>[((1:Int),v)] | none=>[]) n↔_
  by_cases hs:r<bW (bw f) 16
  ·
   rw[List.getElem?_map,List.getElem?_range hs];show bn [((1:Int),bw f r)] n↔_;rw[gw];rfl
  ·
   have h0:=mP (bw f) 16 r (by omega) hr;rw[List.getElem?_eq_none (by simp;omega)];show bn [] n↔_;rw[AT];unfold bw at h0;constructor
   ·
    intro h;exact h.elim
   ·
    intro h;omega
 rw[hv];constructor
 ·
  intro hn;have:=hb n hn;exact⟨this.1,this.2,(h5 n).1 hn⟩
 ·
  rintro ⟨_,_,hn⟩;exact (h5 n).2 hn
def fw (p:aB):aB:=eY (bf p)
theorem mU {f g:Nat→List aX}(h:∀r,r<16→f r=g r):eY f=eY g:=by
 have e1:∀k,k≤16→bW (bw f) k=bW (bw g) k:=by
  intro k
  induction k with
  | zero=>intro _;rfl
  | succ k ih =>
    intro hk;unfold bW;have:bw f k=bw g k:=by unfold bw;rw[h k (by omega)]
    rw[this,ih (by omega)]
 unfold eY;rw[e1 16 (Nat.le_refl _)]
 congr 1
 ·
  refine List.map_congr_left fun r hr=>?_;have:=List.mem_range.1 hr;have h2:=lq (bw g) 16;unfold bw;rw[h r (by omega)]
 ·
  rw[List.flatMap_def,List.flatMap_def]
  congr 1
  refine List.map_congr_left fun r hr=>?_;have:=List.mem_range.1 hr;unfold aN;rw[h r (by omega)]
def fu (ps:List aB):aB:=eY fun r=>aq (ps.flatMap fun p=>bY p r)
def jo (a b:aB):aB:=eY fun r=>dK (bf a r) (bf b r)
def sR (p:aB)(rep num:Int):Prop:=0≤rep∧rep<16∧bn (bf p rep.toNat) num
theorem mS (p:aB)(r:Nat)(n:Int):bn (bf p r) n↔1≤n∧n≤eO∧bn (bY p r) n:=lF _ _
theorem yy (ps:List aB)(r:Nat)(n:Int):bn (ps.flatMap fun p=>bY p r) n↔∃p∈ps,bn (bY p r) n:=by
 induction ps with
 | nil=>simp[bn]
 | cons p ps ih=>rw[List.flatMap_cons,cz,ih];simp
theorem oV (ps:List aB){r:Nat}(hr:r<16)(n:Int):bn (bf (fu ps) r) n↔∃p∈ps,bn (bf p r) n:=by
 unfold fu;rw[gj (fun r=>dj _) hr,lF,yy];constructor
 ·
  rintro ⟨h1,h2,p,hp,h3⟩;exact⟨p,hp,(mS p r n).2 ⟨h1,h2,h3⟩⟩
 ·
  rintro ⟨p,hp,h⟩;obtain⟨h1,h2,h3⟩:=(mS p r n).1 h;exact⟨h1,h2,p,hp,h3⟩
theorem nm (a b:aB){r:Nat}(hr:r<16):bf (jo a b) r=dK (bf a r) (bf b r):=gj (fun r=>ot (bH a r) (bH b r)) hr
def fE (l:List aX):List aX:=l.filterMap gx
theorem p6 {l:List aX}:∀r∈fE l,1≤r.1∧r.1≤r.2∧r.2≤eO:=fun r hr=>by
 obtain⟨s,_,h⟩:=List.mem_filterMap.1 hr;have:=jW h;exact⟨this.1,this.2.1,this.2.2.1⟩
theorem yw (l:List aX)(n:Int):bn (fE l) n↔1≤n∧n≤eO∧bn l n:=by
 constructor
 ·
  rintro ⟨r,hr,h1,h2⟩;obtain⟨s,hs,h⟩:=List.mem_filterMap.1 hr;have:=((jW h).2.2.2 n).1 ⟨h1,h2⟩;exact⟨this.1,this.2.1,s,hs,this.2.2⟩
 ·
  rintro ⟨h1,h2,s,hs,h3,h4⟩;cases h:gx s with
  | none=>exact absurd ⟨h1,h2,h3,h4⟩ (qa h n)
  | some c =>
    have:=((jW h).2.2.2 n).2 ⟨h1,h2,h3,h4⟩;exact⟨c,List.mem_filterMap.2 ⟨s,hs,h⟩,this.1,this.2⟩
structure ir where
 rep:Int
 num:Int
structure aM where
 rep:Int
 num:Int
 cg:ByteArray
 pF:Int
structure br where
 cg:ByteArray
 a8:aB
structure gP where
 jd:List aM
 a8:aB
 ky:List br
instance:DecidableEq aF:=fun a b=>decidable_of_iff (a.rep=b.rep∧a.lo=b.lo∧a.hi=b.hi) (by cases a;cases b;simp)
instance:DecidableEq ir:=fun a b=>decidable_of_iff (a.rep=b.rep∧a.num=b.num) (by cases a;cases b;simp)
instance:DecidableEq aB:=fun a b=>decidable_of_iff (a.vec=b.vec∧a.ad=b.ad) (by cases a;cases b;simp)
instance:DecidableEq aM:=fun a b=>decidable_of_iff (a.rep=b.rep∧a.num=b.num∧a.cg=b.cg∧a.pF=b.pF) (by cases a;cases b;simp)
instance:DecidableEq br:=fun a b=>decidable_of_iff (a.cg=b.cg∧a.a8=b.a8) (by cases a;cases b;simp)
instance:DecidableEq gP:=fun a b=>decidable_of_iff (a.jd=b.jd∧a.a8=b.a8∧a.ky=b.ky) (by cases a;cases b;simp)
def AX (c:UInt8):Bool:=decide (65≤(c.toNat:Int)) && decide ((c.toNat:Int)≤90)
def Bb (c:UInt8):Bool:=decide (48≤(c.toNat:Int)) && decide ((c.toNat:Int)≤57)
def wy (c:UInt8):Bool:=decide ((c.toNat:Int)=45) || decide ((c.toNat:Int)=46)
def tn (l:List UInt8)(i:Nat):Bool:=match l[i]? with
 | none=>false
 | some c=>AX c || Bb c || (wy c && decide (i≠0) && decide (i+1≠l.length) && match l[i-1]? with | none=>false | some p=>!wy p)
def rm (l:List UInt8):Nat×Int:=
 if l.length=0 then (0,20) else if 24<l.length then (0,21) else match (List.range l.length).find? fun i=>!tn l i with
  | some i=>(i,22)
  | none=>(0,0)
def xI (l:List UInt8):Bool:=decide ((rm l).2=0)
theorem sf {n:Nat}{p:Nat→Bool}(h:∀j,j<n→p j=false):(List.range n).find? p=none:=by
 rw[List.find?_eq_none];intro j hj;simp[h j (List.mem_range.1 hj)]
theorem vU:∀ {n:Nat} {p:Nat→Bool} {i:Nat},i<n→p i=true→(∀j,j<i→p j=false)→(List.range n).find? p=some i:=by
 intro n p i hi hp h;have e:List.range n=List.range i++(List.range (n-i)).map (i+·):=by rw[←List.range_add];congr 1;omega
 rw[e,List.find?_append,sf h];obtain⟨k,hk⟩:∃k,n-i=k+1:=⟨n-i-1,by omega⟩;rw[hk,List.range_succ_eq_map];simp[hp]
theorem nF {l:List UInt8}{i:Nat}(h0:l.length≠0)(h1:l.length≤24)(hi:i<l.length)(hp:tn l i=false)(h:∀j,j<i→tn l j=true):rm l=(i,22):=by
 unfold rm;rw[if_neg h0,if_neg (by omega),vU hi (by simp[hp]) (fun j hj=>by simp[h j hj])]
theorem BA {l:List UInt8}(h0:l.length≠0)(h1:l.length≤24)(h:∀j,j<l.length→tn l j=true):rm l=(0,0):=by
 unfold rm;rw[if_neg h0,if_neg (by omega),sf (fun j hj=>by simp[h j hj])]
def iC {α:Type}(f:Option α→α→Bool):Option α→List α→Bool
 | _,[]=>true
 | p,x::l=>f p x && iC f (some x) l
def ahead {α:Type}(p:Option α)(l:List α)(i:Nat):Option α:=if i=0 then p else l[i-1]?
theorem nA {α:Type}{f:Option α→α→Bool}:∀ {l:List α} {p:Option α} {i:Nat} {x:α},l[i]?=some x→f (ahead p l i) x=false→iC f p l=false
 | y::l,p,0,x,hx,h=>by simp at hx;subst hx;simp[ahead]at h;simp[iC,h]
 | y :: l, p, i + 1, x, hx, h => by
   have hx':l[i]?=some x:=by simpa using hx
   have:f (ahead (some y) l i) x=false:=by
    have e:ahead p (y::l) (i+1)=ahead (some y) l i:=by
     unfold ahead;simp;cases i with
     | zero=>simp
     | succ i=>simp
    rw[←e];exact h
   rw[iC,nA hx' this];simp
theorem cL {α:Type}{f:Option α→α→Bool}:∀ {l:List α} {p:Option α},(∀i x,l[i]?=some x→f (ahead p l i) x=true)→iC f p l=true
 | [],_,_=>rfl
 | y :: l, p, h => by
   have h0:=h 0 y rfl;simp[ahead]at h0;rw[iC,h0,cL (p:=some y) fun i x hx=>?_];· rfl
   have:=h (i+1) x (by simpa using hx)
   have e:ahead p (y::l) (i+1)=ahead (some y) l i:=by
    unfold ahead;simp;cases i with
    | zero=>simp
    | succ i=>simp
   rw[←e];exact this
theorem iP {α:Type}{f:Option α→α→Bool}:∀ {l:List α} {p:Option α},iC f p l=true→∀i x,l[i]?=some x→f (ahead p l i) x=true
 | [],_,_,i,x,hx=>by simp at hx
 | y :: l, p, h, i, x, hx => by
   rw[iC,Bool.and_eq_true]at h;cases i with
   | zero=>simp at hx;subst hx;simpa[ahead]using h.1
   | succ i =>
     have e:ahead p (y::l) (i+1)=ahead (some y) l i:=by
      unfold ahead;simp;cases i with
      | zero=>simp
      | succ i=>simp
     rw[e];exact iP h.2 i x (by simpa using hx)
def dR (r n:Int):Bool:=decide (0≤r) && decide (r<16) && decide (1≤n) && decide (n≤1000000000)
def nc (s:ByteArray):Bool:=xI s.data.toList
def qd (e:aM):Int:=if e.rep<0∨16≤e.rep then 3 else if e.num<1∨1000000000<e.num then 2 else if nc e.cg=false then 5 else if e.pF<1∨1000000<e.pF then 6 else 0
def rJ (e:aM):Bool:=dR e.rep e.num && nc e.cg && decide (1≤e.pF) && decide (e.pF≤1000000)
theorem nv (e:aM):decide (qd e=0)=rJ e:=by
 unfold qd rJ dR;rw[Bool.eq_iff_iff];simp only[decide_eq_true_eq,Bool.and_eq_true];constructor
 ·
  intro h
  by_cases h1:e.rep<0∨16≤e.rep
  ·
   rw[if_pos h1]at h;omega
  ·
   rw[if_neg h1]at h
   by_cases h2:e.num<1∨1000000000<e.num
   ·
    rw[if_pos h2]at h;omega
   ·
    rw[if_neg h2]at h
    by_cases h3:nc e.cg=false
    ·
     rw[if_pos h3]at h;omega
    ·
     rw[if_neg h3]at h
     by_cases h4:e.pF<1∨1000000<e.pF
     ·
      rw[if_pos h4]at h;omega
     ·
      have:nc e.cg=true:=by simpa using h3
      refine⟨⟨⟨⟨⟨⟨?_,?_⟩,?_⟩,?_⟩,this⟩,?_⟩,?_⟩<;>omega
 ·
  rintro ⟨⟨⟨⟨⟨⟨a,b⟩,c⟩,d⟩,s⟩,q⟩,r⟩;rw[if_neg (by omega),if_neg (by omega),if_neg (by simp[s]),if_neg (by omega)]
def vQ (a b:aM):Bool:=decide (a.rep<b.rep) || (decide (a.rep=b.rep) && decide (a.num<b.num))
def oh (p:Option aM)(e:aM):Bool:=rJ e && match p with | none=>true | some q=>vQ q e
def cO (l:List aM):Bool:=iC oh none l
def bK (p:aB):Bool:=decide (fw p=p)
def AK (p:aB):Int:=((List.range 16).map fun r=>de (bf p r)).sum
def dN (p:aB):Bool:=decide (AK p=0)
def jY (c:List aF)(r n:Int):Bool:=c.any fun s=>decide (s.rep=r) && decide (s.lo≤n) && decide (n≤s.hi)
def l5 (v:List Int)(r n:Int):Bool:=match v[r.toNat]? with | some m=>decide (n≤m) | none=>false
def hasB (p:aB)(r n:Int):Bool:=dR r n && (l5 p.vec r n || jY p.ad r n)
theorem qJ {c:List aF}{r:Nat}{n:Int}:bn (bc c r) n↔jY c r n=true:=by
 unfold bn bc jY;rw[List.any_eq_true];constructor
 ·
  rintro ⟨x,hx,h1,h2⟩;obtain⟨s,hs,h⟩:=List.mem_filterMap.1 hx
  split at h
  ·
   rename_i hr;cases h;exact⟨s,hs,by simp[hr,h1,h2]⟩
  ·
   cases h
 ·
  rintro ⟨s,hs,h⟩;simp only[Bool.and_eq_true,decide_eq_true_eq]at h;exact⟨(s.lo,s.hi),List.mem_filterMap.2 ⟨s,hs,by rw[if_pos h.1.1]⟩,h.1.2,h.2⟩
theorem fD {p:aB}{r n:Int}:hasB p r n=true↔sR p r n:=by
 unfold hasB sR dR;rw[mS];simp only[Bool.and_eq_true,decide_eq_true_eq,Bool.or_eq_true,dq];constructor
 ·
  rintro ⟨⟨⟨⟨h1,h2⟩,h3⟩,h4⟩,h5⟩;refine⟨h1,h2,h3,h4,?_⟩;unfold bY;rw[cz];rcases h5 with h5 | h5
  ·
   left
   unfold l5 at h5;cases hv:p.vec[r.toNat]? with
   | none=>rw[hv]at h5;simp at h5
   | some m=>rw[hv]at h5;simp at h5;simp[bn];omega
  ·
   right;rw[qJ,Int.toNat_of_nonneg h1];exact h5
 ·
  rintro ⟨h1,h2,h3,h4,h5⟩;refine⟨⟨⟨⟨h1,h2⟩,h3⟩,h4⟩,?_⟩;unfold bY at h5;rw[cz]at h5;rcases h5 with h5 | h5
  ·
   left
   unfold l5;cases hv:p.vec[r.toNat]? with
   | none=>rw[hv]at h5;simp[bn]at h5
   | some m=>rw[hv]at h5;simp[bn]at h5;simp;omega
  ·
   right;rw[qJ,Int.toNat_of_nonneg h1]at h5;exact h5
def c4 (a b:aB):Bool:=(List.range 16).all fun r=>decide (dK (bf a r) (bf b r)=[])
def kL (l:List ir):aB:=fw ⟨[],l.map fun d=>⟨d.rep,d.num,d.num⟩⟩
def aM.dot (e:aM):ir:=⟨e.rep,e.num⟩
def mn (x y:Int):Int:=if x<y then -1 else if y<x then 1 else 0
def cF:List Int→Int
 | []=>0
 | a::l=>if a=0 then cF l else a
def sT (s t:aF):Int:=cF [mn s.rep t.rep,mn s.lo t.lo,mn s.hi t.hi]
def ff:List aF→List aF→Int
 | [],[]=>0
 | [],_::_=>-1
 | _::_,[]=>1
 | s::l,t::m=>if sT s t=0 then ff l m else sT s t
def aL (v:List Int)(r:Nat):Int:=match v[r]? with | some x=>x | none=>0
def zT (a b:aB):Int:=cF ((List.range 16).map (fun r=>mn (aL a.vec r) (aL b.vec r))++[ff a.ad b.ad])
def yl (a b:aB):Int:=zT (fw a) (fw b)
theorem lg {x y:Int}:mn x y=0↔x=y:=by unfold mn;split<;>(try split)<;>omega
theorem dA (l m:List Int):cF (l++m)=if cF l=0 then cF m else cF l:=by
 induction l with
 | nil=>simp[cF]
 | cons a l ih =>
   rw[List.cons_append,cF,cF,ih]
   by_cases ha:a=0
   ·
    rw[if_pos ha,if_pos ha]
   ·
    rw[if_neg ha,if_neg ha,if_neg ha]
def fh (r:aX):List Value:=[.int .i64 r.1,.int .i64 r.2]
def iJ (s:aF):List Value:=[.int .i64 s.rep,.int .i64 s.lo,.int .i64 s.hi]
def qf (d:ir):List Value:=[.int .i64 d.rep,.int .i64 d.num]
def mH (e:aM):List Value:=[.int .i64 e.rep,.int .i64 e.num,.string e.cg,.int .i64 e.pF]
structure PL where
 va:Option Addr
 vc:Nat
 ca:Option Addr
 cc:Nat
 d:aB
abbrev rM (w:World)(A:Option Addr)(c:Nat)(xs:List Int):Prop:=Rd w 1 (.slice A xs.length c) xs.length (xs.map (Value.int .i64))
abbrev gD (w:World)(A:Option Addr)(c:Nat)(xs:List aF):Prop:=Rd w 3 (.slice A xs.length c) xs.length (xs.flatMap iJ)
abbrev gN (w:World)(A:Option Addr)(c:Nat)(xs:List aX):Prop:=Rd w 2 (.slice A xs.length c) xs.length (xs.flatMap fh)
abbrev iz (w:World)(A:Option Addr)(c:Nat)(xs:List aM):Prop:=Rd w 4 (.slice A xs.length c) xs.length (xs.flatMap mH)
abbrev EK (w:World)(A:Option Addr)(c:Nat)(xs:List ir):Prop:=Rd w 2 (.slice A xs.length c) xs.length (xs.flatMap qf)
abbrev ej (e:Nat)(A:Option Addr)(c:Nat)(xs:List Int):As:=row e 1 (.slice A xs.length c) xs.length (xs.map (Value.int .i64))
abbrev bG (e:Nat)(A:Option Addr)(c:Nat)(xs:List aF):As:=row e 3 (.slice A xs.length c) xs.length (xs.flatMap iJ)
abbrev dt (e:Nat)(A:Option Addr)(c:Nat)(xs:List aX):As:=row e 2 (.slice A xs.length c) xs.length (xs.flatMap fh)
abbrev fN (e:Nat)(A:Option Addr)(c:Nat)(xs:List aM):As:=row e 4 (.slice A xs.length c) xs.length (xs.flatMap mH)
theorem kS {α:Type}{enc:α→List Value}{k:Nat}(hk:∀x,(enc x).length=k):∀xs:List α,(xs.flatMap enc).length=xs.length * k
 | []=>by simp
 | x::xs=>by simp[kS hk xs,hk,Nat.add_mul,Nat.add_comm]
theorem gb {α:Type}{enc:α→List Value}{k:Nat}(hk:∀x,(enc x).length=k):∀ {xs:List α} {i:Nat} {x:α},xs[i]?=some x→∀j u,(enc x)[j]?=some u→(xs.flatMap enc)[i * k+j]?=some u
 | [],i,x,h,_,_,_=>by simp at h
 | y :: xs, 0, x, h, j, u, hj => by
   simp at h;subst h;have:=(List.getElem?_eq_some_iff.1 hj).1;rw[List.flatMap_cons,List.getElem?_append_left (by omega)];simpa using hj
 | y :: xs, i + 1, x, h, j, u, hj => by
   rw[List.flatMap_cons,List.getElem?_append_right (by rw[hk];rw[Nat.add_mul];omega),hk,show (i+1) * k+j-k=i * k+j from by rw[Nat.add_mul];omega];exact gb hk (by simpa using h) j u hj
theorem rp (r:aX):(fh r).length=2:=rfl
theorem vB (r:aF):(iJ r).length=3:=rfl
theorem rA (r:ir):(qf r).length=2:=rfl
theorem z7 (r:aM):(mH r).length=4:=rfl
theorem c6 {xs:List aX}{i:Nat}{x:aX}(h:xs[i]?=some x):∀j u,(fh x)[j]?=some u→(xs.flatMap fh)[i * 2+j]?=some u:=gb rp h
theorem et {xs:List aF}{i:Nat}{x:aF}(h:xs[i]?=some x):∀j u,(iJ x)[j]?=some u→(xs.flatMap iJ)[i * 3+j]?=some u:=gb vB h
theorem Bu {xs:List ir}{i:Nat}{x:ir}(h:xs[i]?=some x):∀j u,(qf x)[j]?=some u→(xs.flatMap qf)[i * 2+j]?=some u:=gb rA h
theorem j1 {xs:List aM}{i:Nat}{x:aM}(h:xs[i]?=some x):∀j u,(mH x)[j]?=some u→(xs.flatMap mH)[i * 4+j]?=some u:=gb z7 h
theorem AJ {α:Type}{enc:α→List Value}(h1:∀x,∀u∈enc x,u.oneCell'=true)(xs:List α):∀u∈xs.flatMap enc,u.oneCell'=true:=fun u hu=>by
 obtain⟨x,_,hx⟩:=List.mem_flatMap.1 hu;exact h1 x u hx
theorem ni (x:aX):∀u∈fh x,u.oneCell'=true:=fun u hu=>by simp[fh]at hu;rcases hu with rfl | rfl<;>rfl
theorem zl (xs:List Int):∀u∈xs.map (Value.int .i64),u.oneCell'=true:=fun u hu=>by
 obtain⟨x,_,rfl⟩:=List.mem_map.1 hu
 rfl
structure PL.ok (w:World)(p:PL):Prop where
 vec:rM w p.va p.vc p.d.vec
 ad:gD w p.ca p.cc p.d.ad
theorem PL.ok.sat {W w:World}{L:List As}{p:PL}(h:p.ok W)(s:Sat W w L):p.ok w:=⟨h.vec.sat s,h.ad.sat s⟩
structure RL where
 cg:ByteArray
 p:PL
def RL.d (r:RL):br:=⟨r.cg,r.p.d⟩
def j8 (r:RL):List Value:=[.string r.cg,.slice r.p.va r.p.d.vec.length r.p.vc,.slice r.p.ca r.p.d.ad.length r.p.cc]
theorem qw (r:RL):(j8 r).length=3:=rfl
theorem dy {xs:List RL}{i:Nat}{x:RL}(h:xs[i]?=some x):∀j u,(j8 x)[j]?=some u→(xs.flatMap j8)[i * 3+j]?=some u:=gb qw h
abbrev gz (w:World)(A:Option Addr)(c:Nat)(rs:List RL):Prop:=Rd w 3 (.slice A rs.length c) rs.length (rs.flatMap j8)
def o7 (p:PL):List Value:=[.slice p.va p.d.vec.length p.vc,.slice p.ca p.d.ad.length p.cc]
theorem Ai (r:PL):(o7 r).length=2:=rfl
theorem AV {xs:List PL}{i:Nat}{x:PL}(h:xs[i]?=some x):∀j u,(o7 x)[j]?=some u→(xs.flatMap o7)[i * 2+j]?=some u:=gb Ai h
abbrev zP (w:World)(A:Option Addr)(c:Nat)(ps:List PL):Prop:=Rd w 2 (.slice A ps.length c) ps.length (ps.flatMap o7)
structure jq where
 a:Option Addr
 c:Nat
 rs:List RL
def jq.d (r:jq):List br:=r.rs.map RL.d
structure jq.ok (w:World)(r:jq):Prop where
 top:gz w r.a r.c r.rs
 each:∀x∈r.rs,x.p.ok w
theorem jq.ok.sat {W w:World}{L:List As}{r:jq}(h:r.ok W)(s:Sat W w L):r.ok w:=⟨h.top.sat s,fun x hx=>(h.each x hx).sat s⟩
structure D5 where
 a:Option Addr
 c:Nat
 es:List aM
def D5.ok (w:World)(e:D5):Prop:=iz w e.a e.c e.es
theorem D5.ok.sat {W w:World}{L:List As}{e:D5}(h:e.ok W)(s:Sat W w L):e.ok w:=Rd.sat h s
structure SL where
 e:D5
 p:PL
 r:jq
def SL.d (s:SL):gP:=⟨s.e.es,s.p.d,s.r.d⟩
def nN (s:SL):List Value:=[.slice s.e.a s.e.es.length s.e.c,.slice s.p.va s.p.d.vec.length s.p.vc,.slice s.p.ca s.p.d.ad.length s.p.cc,.slice s.r.a s.r.rs.length s.r.c]
structure SL.ok (w:World)(s:SL):Prop where
 e:s.e.ok w
 p:s.p.ok w
 r:s.r.ok w
theorem SL.ok.sat {W w:World}{L:List As}{s:SL}(h:s.ok W)(t:Sat W w L):s.ok w:=⟨h.e.sat t,h.p.sat t,h.r.sat t⟩
def PL.ch (ei es:Nat)(p:PL):As:=star (ej ei p.va p.vc p.d.vec) (bG es p.ca p.cc p.d.ad)
theorem PL.qR {W w:World}{L:List As}{ei es:Nat}{p:PL}(s:Sat W w (p.ch ei es::L)):p.ok w:=⟨s.open_.rd,s.open_.u6.rd⟩
theorem PL.zh {W w:World}{L:List As}{ei es:Nat}{A B:Option Addr}{c c':Nat}{d:aB}(s:Sat W w (ej ei A c d.vec::bG es B c' d.ad::L)):Sat W w ((⟨A,c,B,c',d⟩:PL).ch ei es::L):=s.shut
def jq.ch (er ei es:Nat)(r:jq):As:=star (row er 3 (.slice r.a r.rs.length r.c) r.rs.length (r.rs.flatMap j8)) (bR (r.rs.map fun x=>x.p.ch ei es))
theorem qo {W w:World}{L:List As}{ei es:Nat}{rs:List RL}(s:Sat W w (bR (rs.map fun x=>x.p.ch ei es)::L)):∀x∈rs,x.p.ok w:=fun x hx=>by
 obtain⟨i,hi⟩:=List.mem_iff_getElem?.1 hx;have h:(rs.map fun x=>x.p.ch ei es)[i]?=some (x.p.ch ei es):=by rw[List.getElem?_map,hi];rfl
 exact PL.qR (s.gy h)
theorem jq.qR {W w:World}{L:List As}{er ei es:Nat}{r:jq}(s:Sat W w (r.ch er ei es::L)):r.ok w:=⟨s.open_.rd,qo s.open_.u6⟩
structure Loc (α:Type) where
 a:Option Addr
 c:Nat
 xs:List α
def Bz {α:Type}(l:Loc α):List Value:=[.slice l.a l.xs.length l.c]
theorem zD {α:Type}(l:Loc α):(Bz l).length=1:=rfl
theorem B3 {α:Type}{xs:List (Loc α)}{i:Nat}{x:Loc α}(h:xs[i]?=some x):∀j u,(Bz x)[j]?=some u→(xs.flatMap Bz)[i * 1+j]?=some u:=gb zD h
def Loc.runs (w:World)(l:Loc aX):Prop:=gN w l.a l.c l.xs
theorem n0 (a b:List aX):fE (a++b)=fE a++fE b:=by simp[fE]
theorem pr {a:List aX}{r c:aX}(h:gx r=some c):fE (a++[r])=fE a++[c]:=by rw[n0];simp[fE,h]
theorem pw {a:List aX}{r:aX}(h:gx r=none):fE (a++[r])=fE a:=by rw[n0];simp[fE,h]
theorem j3 (l:List aX):(fE l).length≤l.length:=List.length_filterMap_le _ _
theorem Af {xs:List aX}{i:Nat}{x:aX}(h:xs[i]?=some x)(v:Int):(xs.flatMap fh).set (i * 2+1) (.int .i64 v)=(xs.set i (x.1,v)).flatMap fh:=by
 induction xs generalizing i with
 | nil=>simp at h
 | cons y xs ih =>
   cases i with
   | zero=>simp at h;subst h;rfl
   | succ i =>
     rw[List.flatMap_cons,List.set_append_right _ _ (by simp[fh];omega)];rw[show (i+1) * 2+1-(fh y).length=i * 2+1 from by simp[fh];omega,ih (by simpa using h)]
     rfl
theorem Ab {xs:List aX}{x r:aX}(h:xs[xs.length-1]?=some x)(h0:0<xs.length)(hr:r.1≤x.2+1):ew xs r=xs.set (xs.length-1) (x.1,max x.2 r.2):=by
 rcases List.eq_nil_or_concat xs with rfl | ⟨o,y,rfl⟩
 ·
  simp at h0
 ·
  rw[List.concat_eq_append]at *;simp at h;subst h;rw[jA,if_pos hr];simp
theorem sw {xs:List aX}{r:aX}(h:∀x,xs[xs.length-1]?=some x→0<xs.length→¬r.1≤x.2+1):ew xs r=xs++[r]:=by
 rcases List.eq_nil_or_concat xs with rfl | ⟨o,y,rfl⟩
 ·
  rfl
 ·
  rw[List.concat_eq_append]at *;rw[jA,if_neg (h y (by simp) (by simp))]
theorem vE (xs:List aX)(r:aX):(ew xs r).length≤xs.length+1:=by
 rcases List.eq_nil_or_concat xs with rfl | ⟨o,y,rfl⟩
 ·
  simp[ew]
 ·
  rw[List.concat_eq_append,jA];split<;>simp
theorem kE:∀(l out:List aX),(l.foldl ew out).length≤out.length+l.length
 | [],out=>by simp
 | r :: l, out => by
   have:=kE l (ew out r);have:=vE out r;rw[List.foldl_cons,List.length_cons];omega
theorem yq {raw ys:List aX}(hp:ys.Perm (fE raw))(hs:ys.Pairwise (fun a b=>a.1≤b.1)):ys.foldl ew []=aq raw:=by
 obtain⟨h1,h2⟩:=mO ys [] trivial (fun r hr=>p6 r (hp.mem_iff.1 hr)) (fun s hs=>by cases hs) hs;refine kP h1 fun n=>?_;rw[h2,←yw];constructor
 ·
  rintro (h | ⟨r,hr,h⟩)
  ·
   simp[bn]at h
  ·
   exact⟨r,hp.mem_iff.1 hr,h⟩
 ·
  rintro ⟨r,hr,h⟩;exact .inr ⟨r,hp.mem_iff.2 hr,h⟩
theorem x8 {raw ys:List aX}(hp:ys.Perm (fE raw))(hs:ys.Pairwise (fun a b=>a.1≤b.1))(k:Nat):can ((ys.take k).foldl ew [])∧∀s∈(ys.take k).foldl ew [],∀r∈ys.drop k,s.1≤r.1:=by
 have hok:∀r∈ys,1≤r.1∧r.1≤r.2∧r.2≤eO:=fun r hr=>p6 r (hp.mem_iff.1 hr)
 have hsk:(ys.take k).Pairwise (fun a b=>a.1≤b.1):=hs.sublist (List.take_sublist k ys);obtain⟨h1,h2⟩:=mO (ys.take k) [] trivial (fun r hr=>hok r (List.mem_of_mem_take hr)) (fun s hs=>by cases hs) hsk;refine⟨h1,fun s hs2 r hr=>?_⟩
 have hcr:∀a∈ys.take k,∀b∈ys.drop k,a.1≤b.1:=by
  have:=hs;rw[←List.take_append_drop k ys,List.pairwise_append]at this;exact this.2.2
 have hm:bn ((ys.take k).foldl ew []) s.1:=⟨s,hs2,Int.le_refl _,(h1.each s hs2).2.1⟩;rcases (h2 s.1).1 hm with h | ⟨t,ht,h3,h4⟩
 ·
  simp[bn]at h
 ·
  -- s begins where one of those that were added begins,or behind
  have:∀(l out:List aX),(∀x∈out,∀r∈ys.drop k,x.1≤r.1)→(∀x∈l,∀r∈ys.drop k,x.1≤r.1)→∀x∈l.foldl ew out,∀r∈ys.drop k,x.1≤r.1:=by
   intro l
   induction l with
   | nil=>intro out ho _ x hx;exact ho x hx
   | cons y l ih =>
     intro out ho hl x hx;refine ih (ew out y) (fun z hz q hq=>?_) (fun z hz=>hl z (by simp[hz])) x hx;rcases List.eq_nil_or_concat out with rfl | ⟨o,v,rfl⟩
     ·
      simp[ew]at hz;subst hz;exact hl _ (by simp) q hq
     ·
      rw[List.concat_eq_append,jA]at hz
      split at hz
      ·
       rcases List.mem_append.1 hz with hz | hz
       ·
        exact ho z (by simp[hz]) q hq
       ·
        simp at hz;subst hz;exact ho v (by simp) q hq
      ·
       rcases List.mem_append.1 hz with hz | hz
       ·
        exact ho z (by simpa using hz) q hq
       ·
        simp at hz;subst hz;exact hl _ (by simp) q hq
  exact this (ys.take k) [] (fun x hx=>by cases hx) hcr s hs2 r hr
theorem cx (l:List aX):(aq l).length≤l.length:=by
 have hi:∀(l:List aX) (r:aX),(mR r l).length≤l.length+1:=by
  intro l
  induction l with
  | nil=>intro r;simp[mR]
  | cons x l ih =>
    intro r;rw[mR]
    split
    ·
     simp
    ·
     split
     ·
      have:=ih r;simp;omega
     ·
      have:=ih (min r.1 x.1,max r.2 x.2);simp;omega
 induction l with
 | nil=>simp[aq]
 | cons r l ih =>
   have e:aq (r::l)=match gx r with | some c=>mR c (aq l) | none=>aq l:=rfl
   rw[e];cases gx r with
   | none=>simp only;simp;omega
   | some c=>simp only;have:=hi (aq l) c;simp;omega
theorem jK {W w:World}{L:List As}{e sz n c:Nat}{A:Option Addr}{cs cs':List Value}{m:Nat}(h:Sat W w (row e sz (.slice A n c) n cs::L))(hn:n=m)(hc:cs=cs'):Sat W w (row e sz (.slice A m c) m cs'::L):=by subst hn hc;exact h
theorem oz {A:Option Addr}{n m c:Nat}(h:n=m):Ending.returned (.slice A n c)=.returned (.slice A m c):=by rw[h]
theorem jv {W w:World}{L:List As}{A:As}(s:Sat W w (A::L)):Sat W w [A]:=Sat.cA (M:=[A]) (L:=L) s [A]
theorem rH {W w:World}{L:List As}{A B:As}(s:Sat W w (A::B::L)):Sat W w [A,B]:=Sat.cA (M:=[A,B]) (L:=L) s [A,B]
theorem vM {W w:World}{L:List As}{A B C:As}(s:Sat W w (A::B::C::L)):Sat W w [A,B,C]:=Sat.cA (M:=[A,B,C]) (L:=L) s [A,B,C]
theorem w9 {W w:World}{L:List As}{A B C D:As}(s:Sat W w (A::B::C::D::L)):Sat W w [A,B,C,D]:=Sat.cA (M:=[A,B,C,D]) (L:=L) s [A,B,C,D]
theorem sn {α:Type}{enc:α→List Value}{k:Nat}(hk:∀x,(enc x).length=k):∀(xs:List α) (i:Nat),(xs.flatMap enc).drop (i * k)=(xs.drop i).flatMap enc
 | xs,0=>by simp
 | [],i+1=>by simp
 | x :: xs, i + 1 => by
   rw[List.flatMap_cons,List.drop_append,List.drop_of_length_le (by rw[hk,Nat.add_mul];omega),List.nil_append,hk,show (i+1) * k-k=i * k from by rw[Nat.add_mul];omega,sn hk xs i]
   rfl
theorem B2 {w:World}{A:Option Addr}{c:Nat}{ns:List aX}(h:gN w A c ns)(h1:1≤ns.length):Rd w 2 (.slice (gR A c 2 1) (ns.length-1) (c-1)) (ns.length-1) ((ns.drop 1).flatMap fh):=by
 have h2:=Rd.Eg h 1 h1;rwa[sn rp ns 1]at h2
theorem mv:∀(l:List aX) (next:Int),(iK next l).length≤l.length+1
 | [],next=>by unfold iK;split<;>simp
 | r :: l, next => by
   have:=mv l (r.2+1);rw[iK,List.length_append,List.length_cons]
   split<;>simp<;>omega
theorem k9 (l:List aX):(aQ l).2.length≤l.length:=by
 cases l with
 | nil=>simp[aQ]
 | cons r l=>rw[ie];split<;>simp
end Go.Proofs.YtkjabaihpkbfhaaGreat.Wk
namespace Go.Proofs.YtkjabaihpkbfhaaGreat.Wk
open Go Go.RowKit Go.Proofs.YtkjabaihpkbfhaaGreat Go.Proofs.YtkjabaihpkbfhaaGreat.K Go.Proofs.YtkjabaihpkbfhaaGreat.T
theorem wg (W:World)(r:aX)  : Calls Tryz.prog 285 #[.agg #[.int .i64 r.1,.int .i64 r.2]] W fun e w'=>e=.returned (.tuple #[.agg #[.int .i64 (max r.1 1),.int .i64 (min r.2 1000000000)],.bool (decide (max r.1 1≤min r.2 1000000000))])∧Sat W w' []:=by
 refine enter Tryz.func285 rfl rfl rfl (.cons (i:=0) rfl .nil) ?_;have hS:=Sat.start W;refine uC 2 ?_;refine uB rfl hS ?_;clear hS;intro b1 w hS;refine uN lW hS ?_;clear hS;intro b2 w hS;refine uO 5 ?_;refine u1 0 (aa rfl eB) ?_;refine u1 0 (ld rfl bq) ?_;refine u1 0 (tP rfl rfl) ?_;refine u1 0 (aa rfl cI) ?_;refine u1 0 (ld rfl bq) ?_;refine u1 0 (wD rfl rfl) ?_;refine u1 0 (aa rfl eB) ?_;intro a hA;refine jR (cs':=[_,_]) hA rfl rfl bq kz rfl (hS.p 1) rfl rfl ?_;clear hS;intro w hS;refine o1 0 hA (aa (hA.ev rfl) cI) ?_;clear hA a;intro a hA;refine jR (cs':=[_,_]) hA rfl rfl bq kz rfl hS rfl rfl ?_;clear hS;intro w hS;refine rO 3 hA ?_;clear hA a;intro a hA
 refine Dz (fun w'=>∃v,Sat W w' [aS b1 (.cells #[.int .i64 (max r.1 1),.int .i64 (min r.2 1000000000)] 357),aS b2 (.cells v 357)]) (by kernel_rfl) ?_;replace hS:=hS.drew;refine K.h1 0 hA pk rfl rfl rfl rfl (by kernel_rfl) (by kernel_rfl) (by kernel_rfl) (by exact⟨_,hS⟩) (fun w hT=>let ⟨v,hS⟩:=hT;(ag (cs:=[_,_]) (hA.ev rfl) iQ bP (by exact hS.ab (xs:=[_,_]) rfl))) ?_;clear hA a;intro a hA;refine K.h1 1 hA pk rfl rfl rfl rfl (by kernel_rfl) (by kernel_rfl) (by kernel_rfl) (by exact⟨_,hS⟩) (fun w hT=>let ⟨v,hS⟩:=hT;(aa (hA.ev rfl) eB)) ?_;clear hA a;intro a hA;refine K.h1 2 hA pk rfl rfl rfl rfl (by kernel_rfl) (by kernel_rfl) (by kernel_rfl) (by exact⟨_,hS⟩) (fun w hT=>let ⟨v,hS⟩:=hT;(av (hA.ev rfl) bq (by exact hS.cell rfl))) ?_;clear hA a;intro a hA
 refine K.h1 3 hA pk rfl rfl rfl rfl (by kernel_rfl) (by kernel_rfl) (by kernel_rfl) (by exact⟨_,hS⟩) (fun w hT=>let ⟨v,hS⟩:=hT;(aa (hA.ev rfl) cI)) ?_;clear hA a;intro a hA;refine K.h1 4 hA pk rfl rfl rfl rfl (by kernel_rfl) (by kernel_rfl) (by kernel_rfl) (by exact⟨_,hS⟩) (fun w hT=>let ⟨v,hS⟩:=hT;(av (hA.ev rfl) bq (by exact hS.cell rfl))) ?_;clear hA a;intro a hA;refine K.h1 5 hA pk rfl rfl rfl rfl (by kernel_rfl) (by kernel_rfl) (by kernel_rfl) (by exact⟨_,hS⟩) (fun w hT=>let ⟨v,hS⟩:=hT;(dU (hA.ev rfl) (hA.ev rfl))) ?_;clear hA a;intro a hA;refine Gv 6 (by kernel_rfl) ?_;refine cK (vs:=[_,_]) (cs':=[_,_]) hA rfl rfl rfl bP (by simp[Value.oneCell']) (hS.p 1) rfl rfl ?_;clear hS;intro w hS;refine⟨(by exact⟨_,hS.p 1⟩),?_⟩
 refine K.h1 7 hA pk rfl rfl rfl rfl (by kernel_rfl) (by kernel_rfl) (by kernel_rfl) (by exact⟨_,hS.p 1⟩) (fun w hT=>let ⟨v,hS⟩:=hT;(nt (hA.ev rfl))) ?_;clear hA a;intro a hA;refine wpAnyH_done (by kernel_rfl) ?_ _;refine rE 2 hA ?_;clear hA a;intro a hA;refine cY hA rfl (cy (cs:=[_,_]) hA rfl iQ bP (by exact hS.ab (xs:=[_,_]) rfl)) (cf hA rfl) ?_;exact⟨rfl,hS.nil⟩
theorem zb (W w:World)(L:List As)(A:Option Addr)(c:Nat)(xs:List aX)(r:aX)(hS:Sat W w (dt 357 A c xs::L))(hx2:∀x∈xs,0≤x.2∧x.2≤1000000000)(hl:xs.length≤1000000000000):Calls Tryz.prog 288 #[.slice A xs.length c,.agg #[.int .i64 r.1,.int .i64 r.2]] w fun e w'=>∃A' c',e=.returned (.slice A' (ew xs r).length c')∧Sat W w' (dt 357 A' c' (ew xs r)::L):=by
 refine enter Tryz.func288 rfl rfl rfl (.cons (i:=0) rfl (.cons (i:=1) rfl .nil)) ?_;refine uC 2 ?_;refine uB rfl hS ?_;clear hS;intro b3 w hS;refine uO 7 ?_;refine u1 4 (au rfl bo) ?_;intro a hA;refine cZ (fun w'=>Sat _ w' _) (by kernel_rfl) (by kernel_rfl) hS.drew ?_;refine rQ 1 hA ?_;clear hA a;intro a hA;refine K.sq hA rfl rfl rfl (fun w hS=>(dW (hA.ev rfl) (hA.ev rfl))) ?_ ?_
 ·clear hA a;intro h9;refine uQ 1 ?_;refine bC 0 (fun w hS=>(aa rfl eB)) ?_;refine bC 2 (fun w hS=>(ld rfl bq)) ?_;refine bC 0 (fun w hS=>(bJ rfl rfl (by omega) (by omega))) ?_;obtain⟨A_p,rfl⟩:∃q,A=some q:=(hS.p 1).rd.aw (by omega);obtain⟨x,hx⟩:∃zz_,xs[((xs.length:Int)-1).toNat]?=some zz_:=⟨_,List.getElem?_eq_getElem (by omega)⟩;have hxb:=hx2 x (List.mem_of_getElem? hx);refine bC 0 (fun w hS=>(an rfl rfl bo bP (by omega) (by omega))) ?_;refine bC 0 (fun w hS=>(aJ rfl cI)) ?_;refine bC 0 (fun w hS=>(av rfl bq (bS (hS.p 1).rd (c6 hx 1 _ rfl)))) ?_;refine bC 0 (fun w hS=>(aj rfl rfl (by omega) (by omega))) ?_;intro a hA;refine K.tL hA (ar hA rfl rfl rfl) rfl rfl (fun w hS=>(dU (hA.ev rfl) (hA.ev rfl))) ?_ ?_
  ·clear hA a;intro h20;refine uQ 1 ?_;intro a hA;refine wpQuiet_nil ?_;clear hS;intro w hS;refine rE 3 hA ?_;clear hA a;intro a hA;refine dV (l1:=[_,_,_,_,_,_,_,_,_,_,_,_,_,_]) (l2:=[_]) rfl (by kernel_rfl) (by kernel_rfl) ?_;replace hS:=hS.drew;refine rT 2 hA ?_;clear hA a;refine dO 2 (bJ rfl rfl (by omega) (by omega)) ?_;refine dO 0 (bJ rfl rfl (by omega) (by omega)) ?_;refine dO 0 (an rfl rfl bo bP (by omega) (by omega)) ?_;refine dO 0 (aJ rfl cI) ?_;refine dO 0 (av rfl bq (bS (hS.p 1).rd (c6 hx 1 _ rfl))) ?_;refine dO 0 (aa rfl cI) ?_;refine dO 0 (ld rfl bq) ?_;refine dO 0 (tP rfl rfl) ?_;refine dO 0 (an rfl rfl bo bP (by omega) (by omega)) ?_;refine dO 0 (aJ rfl cI) ?_;intro a hA;refine wpStill_nil ?_
   refine Gx (((xs.length:Int)-1).toNat * 2+1) hA rfl (add_add _ _ _) rfl bq kz rfl (hS.p 1) (by rw[kS rp];omega) ?_;clear hS;intro w hS;refine rO 2 hA ?_;clear hA a;intro a hA;replace hA:=hA.kp [0,3,4] rfl;refine rC 8 hA ?_;clear hA a;refine bt ?_;have ex:xs[xs.length-1]?=some x:=by rw[←hx];congr 1;omega
   have es:=Ab (r:=r) ex (by omega) (by omega);have ei:((xs.length:Int)-1).toNat=xs.length-1:=by omega
   rw[ei,Af ex]at hS;rw[es];exact⟨_,_,oz List.length_set.symm,jK (hS.p 1).drop List.length_set.symm rfl⟩
  ·clear hA a;intro h20;refine uQ 1 ?_;intro a hA;refine wpQuiet_nil ?_;clear hS;intro w hS;refine rE 7 hA ?_;clear hA a;refine u1 0 (ag (cs:=[_,_]) rfl iQ bP (by exact hS.ab (xs:=[_,_]) rfl)) ?_;intro a hA;refine gH (vss:=[[_,_]]) hA rfl rfl bo fv rfl rfl rfl (by simp) rfl hS ?_;clear hA a hS;intro A39 w hS;intro a hA;refine eP hA rfl rfl rfl bo fv rfl (hS.p 2) (hS.rd.src bo (ni r)) (by omega) (by omega) ?_;clear hA a hS;intro A40 c40 w hc40 hS;refine uO 4 ?_;refine bt ?_;have ex:xs[xs.length-1]?=some x:=by rw[←hx];congr 1;omega
   have es:ew xs r=xs++[r]:=sw fun y hy h0=>by rw[ex]at hy;cases hy;omega
   rw[es];exact⟨_,_,oz (by simp),jK ((hS.p 2).drop.p 1).drop (by simp) (by simp[fh])⟩
 ·clear hA a;intro h9;refine uQ 12 ?_;intro a hA;refine wpQuiet_nil ?_;clear hS;intro w hS;refine rE 7 hA ?_;clear hA a;refine u1 0 (ag (cs:=[_,_]) rfl iQ bP (by exact hS.ab (xs:=[_,_]) rfl)) ?_;intro a hA;refine gH (vss:=[[_,_]]) hA rfl rfl bo fv rfl rfl rfl (by simp) rfl hS ?_;clear hA a hS;intro A39 w hS;intro a hA;refine eP hA rfl rfl rfl bo fv rfl (hS.p 2) (hS.rd.src bo (ni r)) (by omega) (by omega) ?_;clear hA a hS;intro A40 c40 w hc40 hS;refine uO 4 ?_;refine bt ?_;have es:ew xs r=xs++[r]:=sw fun y hy h0=>by omega
  rw[es];exact⟨_,_,oz (by simp),jK ((hS.p 2).drop.p 1).drop (by simp) (by simp[fh])⟩
theorem sS (W:World)(A:Option Addr)(n c:Nat)(xs:List aX)(hR:Rd W 2 (.slice A n c) n (xs.flatMap fh))(hn:n=xs.length)(hl:xs.length≤1000000000000):Calls Tryz.prog 273 #[.slice A n c] W fun e w'=>∃A' c',e=.returned (.slice A' xs.length c')∧Sat W w' [dt 357 A' c' xs]:=by
 refine enter Tryz.func273 rfl rfl rfl (.cons (i:=0) rfl .nil) ?_;have hS:=Sat.start W;refine uC 9 ?_;refine lv 0 0 (wC rfl rfl bo) ?_ ?_
 ·intro h4;refine uO 10 ?_;refine bt ?_;obtain rfl:A=none:=by simpa using h4
  obtain⟨h0,_⟩:=hR.nil;obtain rfl:=List.eq_nil_of_length_eq_zero (by omega:xs.length=0);exact⟨none,0,rfl,hS.bp _ _⟩
 ·intro h4;refine uO 7 ?_;intro a hA;refine Dx hA rfl bo fv hS ?_;clear hA a hS;intro A5 w hS;refine uO 1 ?_;intro a hA;refine eP hA rfl rfl rfl bo fv rfl hS ((hR.sat hS).src bo (AJ ni xs)) (by omega) (by omega) ?_;clear hA a hS;intro A7 c7 w hc7 hS;refine uO 4 ?_;refine bt ?_;simp only[Nat.zero_add,List.nil_append]at hS ⊢;exact⟨_,_,oz hn,jK hS hn rfl⟩
end Go.Proofs.YtkjabaihpkbfhaaGreat.Wk
namespace Go.Proofs.YtkjabaihpkbfhaaGreat.K
open Go Go.RowKit Go.Proofs
theorem rn {α:Type}[Inhabited α]{enc:α→List Value}{k:Nat}(hk:∀x,(enc x).length=k)(d:Array α):(Go.Sort.flatK enc k d).toList=d.toList.flatMap enc:=by
 have key:∀l:List α,(Go.Sort.flatK enc k l.toArray).toList=l.flatMap enc:=by
  intro l
  have hl:∀l:List α,(l.flatMap enc).length=l.length * k:=by
   intro l
   induction l with
   | nil=>simp
   | cons x l ih=>rw[List.flatMap_cons,List.length_append,ih,hk,List.length_cons,Nat.add_mul];omega
  refine List.ext_getElem (by rw[hl];simp) fun i h1 h2=>?_;have hi:i<l.length * k:=by rw[hl]at h2;exact h2
  have k0 : 0 < k := by rcases Nat.eq_zero_or_pos k with h | h; · subst h; simp at hi
                        ·
                         exact h
  have e1:(Go.Sort.flatK enc k l.toArray).toList[i]=(enc l.toArray[i / k]!)[i % k]!:=by
   have h3:=Go.Sort.get_flatK enc k l.toArray i (by simpa using hi);rw[getElem!_pos _ i (by simpa using hi)]at h3;rw[←h3];simp
  rw[e1];have hq:i / k<l.length:=by rw[Nat.div_lt_iff_lt_mul k0];exact hi
  have hm:i % k<k:=Nat.mod_lt _ k0
  have at_:∀(l:List α) (q j:Nat) (hq:q<l.length) (hj:j<k),(l.flatMap enc)[q * k+j]?=some ((enc l[q])[j]'(by rw[hk];exact hj)):=by
   intro l
   induction l with
   | nil=>intro q j hq;simp at hq
   | cons x l ih =>
     intro q j hq hj;cases q with
     | zero=>rw[List.flatMap_cons,List.getElem?_append_left (by rw[hk];omega)];simp[hk,hj]
     | succ q =>
       rw[List.flatMap_cons,List.getElem?_append_right (by rw[hk,Nat.add_mul];omega),hk,show (q+1) * k+j-k=q * k+j from by rw[Nat.add_mul];omega];exact ih q j (by simpa using hq) hj
  have h4:=at_ l (i / k) (i % k) hq hm;have hdm:i / k * k+i % k=i:=by rw[Nat.mul_comm];exact Nat.div_add_mod i k
  rw[hdm,List.getElem?_eq_getElem h2]at h4;have h5:=Option.some.inj h4;rw[h5];have h6:l.toArray[i / k]! =l[i / k]:=by rw[getElem!_pos _ _ (by simpa using hq)];simp
  rw[h6,getElem!_pos _ _ (by rw[hk];exact hm)]
 have:=key d.toList;simpa using this
theorem xV {α:Type}[Inhabited α]{W w:World}{L:List As}{enc:α→List Value}{e k b n c:Nat}{xs:List α}(hk:∀x,(enc x).length=k)(s:Sat W w (row e k (.slice (some ⟨b,0,none⟩) n c) n (xs.flatMap enc)::L))(hn:n=xs.length) :
 Go.Sort.HoldsK enc k w b 0 xs.toArray∧W.heap.size≤b∧b<w.heap.size:=by
 obtain⟨bl,h,⟨h1,h2,a,s1,s2,q,r⟩,t⟩:=s;rcases q with ⟨hv,_,_⟩ | ⟨b',cap,sp,fr,hv,hnc,hcap,hl,hl2,hfr,hb⟩
 ·
  cases hv
 ·
  cases hv;have S:Sat W w (aS b (.cells (xs.flatMap enc++sp).toArray e fr)::L):=⟨bl,h,⟨h1,h2,a,s1,s2,hb,r⟩,t⟩;refine⟨fun j hj=>?_,S.block.2,S.lt⟩;rw[Go.Sort.size_flatK]at hj;have hj:j<xs.length * k:=by simpa using hj
  have hlen:(xs.flatMap enc).length=xs.length * k:=by rw[hl,hn]
  have e1:(Go.Sort.flatK enc k xs.toArray)[j]! =(xs.flatMap enc)[j]'(by rw[hlen];exact hj):=by
   have e2:=rn hk xs.toArray;simp only[]at e2;have hj2:j<(Go.Sort.flatK enc k xs.toArray).toList.length:=by simpa using hj
   rw[getElem!_pos _ j (by simpa using hj)];have e3:(Go.Sort.flatK enc k xs.toArray).toList[j]=(xs.flatMap enc)[j]'(by rw[hlen];exact hj):=List.getElem_of_eq e2 hj2;rw[←e3];simp
  rw[e1,Nat.zero_add];have hcap':j<c * k:=by rw[←hl2,List.length_append,hlen];omega
  refine⟨?_,S.tv hfr hcap'⟩;refine S.pa ?_;simp only[List.getElem?_toArray];rw[List.getElem?_append_left (by rw[hlen];exact hj)];exact List.getElem?_eq_getElem _
theorem tw {F:Array Value}{cs sp:List Value}(h:F.size=cs.length):Go.Sort.putCells id 0 F (cs++sp).toArray=(F.toList++sp).toArray:=by
 refine Array.ext' ?_;refine List.ext_getElem ?_ fun i h1 h2=>?_
 ·
  simp[Go.Sort.putCells,h]
 ·
  simp only[Go.Sort.putCells,Array.toList_mapIdx,List.getElem_mapIdx,Nat.zero_le,true_and,Nat.zero_add,Nat.sub_zero,id]
  by_cases hi:i<F.size
  ·
   rw[if_pos hi,getElem!_pos F i hi];simp[hi]
  ·
   rw[if_neg hi];have:cs.length≤i:=by omega
   have h3:F.toList.length≤i:=by simp;omega
   simp only[List.getElem_append_right h3];simp[List.getElem_append_right this,h]
theorem Sat.sorted {α:Type}[Inhabited α]{W w:World}{L:List As}{enc:α→List Value}{e k b n c m:Nat}{xs:List α}(hk:∀x,(enc x).length=k)(d:Array α)(os:Array Obj)(s:Sat W w (row e k (.slice (some ⟨b,0,none⟩) n c) n (xs.flatMap enc)::L))(hn:n=xs.length)(hd:d.size=xs.length) :
 Sat W (sortWorldK enc k w b 0 m d os) (row e k (.slice (some ⟨b,0,none⟩) n c) n (d.toList.flatMap enc)::L):=by
 have hfl:=rn hk d;obtain⟨bl,h,⟨h1,h2,a,s1,s2,q,r⟩,t⟩:=s;rcases q with ⟨hv,_,_⟩ | ⟨b',cap,sp,fr,hv,hnc,hcap,hl,hl2,hfr,hb⟩
 ·
  cases hv
 ·
  cases hv;have S:Sat W w (aS b (.cells (xs.flatMap enc++sp).toArray e fr)::L):=⟨bl,h,⟨h1,h2,a,s1,s2,hb,r⟩,t⟩;have hbk:=S.block;have hsz:(Go.Sort.flatK enc k d).size=(xs.flatMap enc).length:=by rw[Go.Sort.size_flatK,hl,hn,hd]
  have hheap:(Go.Sort.putRowK enc k (Go.Sort.ahead w m) b 0 d).heap=w.heap.modify b (Go.Sort.onCells (Go.Sort.putCells id 0 (Go.Sort.flatK enc k d))):=rfl
  have S1:Sat W (Go.Sort.putRowK enc k (Go.Sort.ahead w m) b 0 d) (aS b (.cells (d.toList.flatMap enc++sp).toArray e fr)::L):=by
   refine S.write ⟨rfl,rfl,rfl,by rw[hheap];simp,fun i hi=>?_⟩ ?_ fun i hi=>?_
   ·
    rw[hheap,Array.getElem?_modify,if_neg (by omega)]
   ·
    rw[hheap,Array.getElem?_modify,if_pos rfl,hbk.1];simp only[Option.map_some,Go.Sort.onCells];rw[tw hsz,hfl]
   ·
    rw[hheap,Array.getElem?_modify,if_neg (by omega)]
  have S2:Sat W (sortWorldK enc k w b 0 m d os) (aS b (.cells (d.toList.flatMap enc++sp).toArray e fr)::L):=by
   have hlt:=S1.below.size
   have hg:∀i,i<(Go.Sort.putRowK enc k (Go.Sort.ahead w m) b 0 d).heap.size→(sortWorldK enc k w b 0 m d os).heap[i]?=(Go.Sort.putRowK enc k (Go.Sort.ahead w m) b 0 d).heap[i]?:=fun i hi=>by
    show ((Go.Sort.putRowK enc k (Go.Sort.ahead w m) b 0 d).heap++os)[i]?=_;rw[Array.getElem?_append_left hi]
   refine S1.move ⟨rfl,rfl,rfl,?_,fun i hi=>hg i (by omega)⟩ fun i o hi he=>?_
   ·
    show _≤((Go.Sort.putRowK enc k (Go.Sort.ahead w m) b 0 d).heap++os).size;rw[Array.size_append];omega
   ·
    rw[hg i (Array.getElem?_eq_some_iff.1 he).1];exact he
  refine S2.imp fun g hg=>.inr ⟨b,c,sp,fr,rfl,hnc,hcap,?_,?_,hfr,hg⟩
  ·
   rw[←hfl,Array.length_toList,hsz,hl]
  ·
   rw[List.length_append,←hfl,Array.length_toList,hsz,←List.length_append,hl2]
theorem uw {α:Type}[Inhabited α]{lt:α→α→Bool}{d:Array α}(h:Go.Sort.SortedIn lt 0 d.size d):d.toList.Pairwise fun x y=>lt y x=false:=by
 rw[List.pairwise_iff_getElem];intro i j hi hj hij;have:=h i j (Nat.zero_le _) hij (by simpa using hj);rw[getElem!_pos d i (by simpa using hi),getElem!_pos d j (by simpa using hj)]at this;simpa using this
theorem x3 {α:Type}[Inhabited α]{d d':Array α}(h:Go.Sort.PermIn 0 d.size d d'):d'.size=d.size∧d'.toList.Perm d.toList:=by
 obtain⟨h1,_,h3⟩:=h;refine⟨h1,?_⟩;have e1:d'.extract 0 d.size=d':=by rw[←h1];exact Array.extract_size
 have e2:d.extract 0 d.size=d:=Array.extract_size;rwa[e1,e2]at h3
end Go.Proofs.YtkjabaihpkbfhaaGreat.K
namespace Go.Proofs.YtkjabaihpkbfhaaGreat.Wk
open Go Go.RowKit Go.Proofs.YtkjabaihpkbfhaaGreat Go.Proofs.YtkjabaihpkbfhaaGreat.K Go.Proofs Go.Shelf Go.Sort
def vj:Go.Shelf.Ren:=⟨fun | 6=>286 | 15=>175 | 14=>295 | 28=>214 | 29=>215 | 20=>297 | 21=>298 | 22=>299 | 23=>300 | 24=>301 | 25=>302 | 26=>303 | 27=>304 | 46=>305 | 47=>306 | 48=>307 | 49=>308 | 50=>309 | 57=>310 | n=>n,fun | 22=>326 | 24=>357 | 25=>397 | 3=>3 | 39=>265 | 0=>0 | 53=>208 | 55=>333 | 4=>4 | 46=>404 | 45=>403 | 50=>340 | 5=>5 | 9=>9 | 66=>409 | 70=>372 | 76=>412 | 77=>121 | n=>n,fun | n=>n⟩
end Go.Proofs.YtkjabaihpkbfhaaGreat.Wk
