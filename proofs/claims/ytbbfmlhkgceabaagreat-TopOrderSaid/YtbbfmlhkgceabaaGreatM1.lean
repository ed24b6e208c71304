/-
  Frames of slots as lists, own blocks, data in memory, and one rule for each operation.
  One law for each operation: what its run gives where its operands are known.
  The steps: operations one behind the other, the ways of control, calls and returns.
  Limbs and integers in memory, and the operations on slices.
  A region that draws its order: an invariant over what has been done; operations that answer the same whenever they run.
  Arrays of the call's own: make, index, store, append.
  Lists of limbs: what they are worth, and their zeros at the end.
  What lists of limbs are worth; the limbs of a number; comparisons.
  Sums, differences and products of lists of limbs, limb by limb.
  Division of lists of limbs by one limb; values from the top.
  Integers by sign and absolute value.
  Sizes of results, and valid limbs.
  Conditions: none.
-/
import Derived.WalkKit
import Derived.Orders
import Derived.Maps.AppendAt
set_option linter.all false
namespace Go.Sw
open Go Go.RowKit
def lk(t:Nat):List (Nat × Value)→Option Value
 |[]=>none
 |(s,v) :: r=>cond (Nat.beq s t) (some v) (lk t r)
theorem beq_no{a b:Nat}(h:¬ a=b):Nat.beq a b=false:=by
 cases e:Nat.beq a b with
 |false=>rfl
 |true=>exact absurd (Nat.eq_of_beq_eq_true e) h
structure Frm (N:Nat) (a:Act) (L:List (Nat × Value)):Prop where
 size:a.tmps.size=N
 defers:a.defers=[]
 get:∀t v,lk t L=some v→a.tmps.getD t undef=v
theorem Frm.put{N:Nat}{a:Act}{L:List (Nat × Value)}(h:Frm N a L){d:Nat}(hd:d<N)(v:Value):Frm N (a.put (some d) v) ((d,v) :: L):=by
 refine ⟨by simp [Act.put,h.size],h.defers,λt u hu=>?_⟩
 simp only [lk] at hu
 by_cases e:d=t
 ·subst e
  simp at hu
  subst hu
  have:d<a.tmps.size:=by rw [h.size];exact hd
  simp [Act.put,this]
 ·have e':Nat.beq d t=false:=beq_no e
  rw [e'] at hu
  have:=h.get t u hu
  simp only [Act.put,Array.getD_eq_getD_getElem?] at this ⊢
  rw [Array.getElem?_setIfInBounds_ne e]
  exact this
theorem Frm.nil{N:Nat}{a:Act}{L:List (Nat × Value)}(h:Frm N a L):Frm N a []:=⟨h.size,h.defers,λ_ _ hv=>by simp [lk] at hv⟩
theorem Frm.cons{N:Nat}{a:Act}{L:List (Nat × Value)}(h:Frm N a L){t:Nat}{v:Value}(hv:a.tmps.getD t undef=v):Frm N a ((t,v) :: L):=by
 refine ⟨h.size,h.defers,λs u hu=>?_⟩
 simp only [lk] at hu
 by_cases e:t=s
 ·subst e;simp at hu;rw [hv,hu]
 ·have e':Nat.beq t s=false:=beq_no e
  rw [e'] at hu
  exact h.get s u hu
theorem Frm.take{N:Nat}{a:Act}{L L':List (Nat × Value)}(h:Frm N a L)(h':Frm N a L'){t:Nat}{v:Value}(hv:lk t L=some v):Frm N a ((t,v) :: L') :=
 h'.cons (h.get t v hv)
def ev(L:List (Nat × Value)):Operand→Option Value
 |.tmp t=>lk t L
 |.const v=>some v
 |.global g=>some (.pointer (some ⟨g,0,none⟩))
 |.func f=>some (.func (.func f) #[] #[])
theorem Frm.ev{N:Nat}{a:Act}{L:List (Nat × Value)}(h:Frm N a L){x:Operand}{v:Value}(hv:Sw.ev L x=some v):a.eval x=v:=by
 cases x with
 |tmp t=>exact h.get t v hv
 |const u=>exact Option.some.inj hv
 |global g=>exact Option.some.inj hv
 |func f=>exact Option.some.inj hv
abbrev Bx:=Nat × TypeId × Array Value
structure St (w0 w:World) (L:List Bx):Prop where
 below:Below w0.heap.size w0 w
 box:∀b∈L,w.heap[b.1]?=some (.cells b.2.2 b.2.1 (0,0))∧w0.heap.size≤b.1
 nd:L.Pairwise λa b=>a.1≠b.1
def bl(L:List Bx):List Nat:=L.map (·.1)
theorem lt_of_heap{w:World}{g:Nat}{o:Obj}(h:w.heap[g]?=some o):g<w.heap.size:=(Array.getElem?_eq_some_iff.1 h).1
theorem St.refl(w:World):St w w []:=⟨Below.refl _ _,λ_ h=>absurd h (by simp),List.Pairwise.nil⟩
theorem St.lt{w0 w:World}{L:List Bx}(h:St w0 w L){b:Bx}(hb:b∈L):b.1<w.heap.size:=lt_of_heap (h.box b hb).1
theorem St.bnd{w0 w:World}{L:List Bx}(h:St w0 w L){X:List Nat}(hX:∀m∈X,m<w0.heap.size):∀m∈bl L++X,m<w.heap.size:=by
 intro m hm
 rcases List.mem_append.1 hm with hm|hm
 ·obtain ⟨b,hb,rfl⟩:=List.mem_map.1 hm
  exact h.lt hb
 ·exact Nat.lt_of_lt_of_le (hX m hm) h.below.size
theorem St.get{w0 w:World}{L:List Bx}(h:St w0 w L)(k:Nat){g:Nat}{t:TypeId}{cs:Array Value}(hk:L[k]?=some (g,t,cs)):w.heap[g]?=some (.cells cs t (0,0)) :=
 (h.box _ (List.mem_of_getElem? hk)).1
theorem St.base{w0 w:World}{L:List Bx}(h:St w0 w L)(k:Nat){g:Nat}{t:TypeId}{cs:Array Value}(hk:L[k]?=some (g,t,cs)):w0.heap.size≤g :=
 (h.box _ (List.mem_of_getElem? hk)).2
theorem St.drew{w0 w:World}{L:List Bx}(h:St w0 w L):St w0 w.drew L:=⟨h.below.drew,h.box,h.nd⟩
theorem St.alloc{w0 w:World}{L:List Bx}(h:St w0 w L)(cs:Array Value)(t:TypeId):St w0 (w.alloc (.cells cs t)) ((w.heap.size,t,cs) :: L):=by
 refine ⟨h.below.alloc h.below.size _,λb hb=>?_, ?_⟩
 ·rcases List.mem_cons.1 hb with rfl|hb
  ·exact ⟨heap_alloc_new w _,h.below.size⟩
  ·exact ⟨(Below.heap_alloc w _ _ (h.lt hb)).trans (h.box b hb).1,(h.box b hb).2⟩
 ·exact List.pairwise_cons.2 ⟨λb hb=>Nat.ne_of_gt (h.lt hb),h.nd⟩
theorem St.alloc_{w0 w:World}{L:List Bx}(h:St w0 w L)(o:Obj):St w0 (w.alloc o) L :=
 ⟨h.below.alloc h.below.size _,λb hb=>⟨(Below.heap_alloc w _ _ (h.lt hb)).trans (h.box b hb).1,(h.box b hb).2⟩,h.nd⟩
theorem St.call{w0 w w':World}{L:List Bx}(h:St w0 w L)(hb:Below w.heap.size w w'):St w0 w' L :=
 ⟨h.below.trans (hb.mono h.below.size),λb hb'=>⟨(hb.block _ (h.lt hb')).trans (h.box b hb').1,(h.box b hb').2⟩,h.nd⟩
theorem St.drop{w0 w:World}{L L':List Bx}(h:St w0 w L)(hs:L'.Sublist L):St w0 w L' :=
 ⟨h.below,λb hb=>h.box b (hs.subset hb),h.nd.sublist hs⟩
theorem St.push{w0 w:World}{L:List Bx}(h:St w0 w L){g:Nat}{t:TypeId}{cs:Array Value}(hg:w.heap[g]?=some (.cells cs t (0,0)))(h0:w0.heap.size≤g)(hn:g ∉ bl L):St w0 w ((g,t,cs) :: L):=by
 refine ⟨h.below,λb hb=>?_,List.pairwise_cons.2 ⟨λb hb e=>hn (List.mem_map.2 ⟨b,hb,e.symm⟩),h.nd⟩⟩
 rcases List.mem_cons.1 hb with rfl|hb
 ·exact ⟨hg,h0⟩
 ·exact h.box b hb
theorem bl_set{L:List Bx}(k:Nat){g:Nat}{t t':TypeId}{cs cs':Array Value}(hk:L[k]?=some (g,t,cs)):bl (L.set k (g,t',cs'))=bl L:=by
 have hlt:k<L.length:=(List.getElem?_eq_some_iff.1 hk).1
 have hv:L[k]=(g,t,cs):=(List.getElem?_eq_some_iff.1 hk).2
 apply List.ext_getElem?
 intro i
 simp only [bl,List.getElem?_map,List.getElem?_set]
 by_cases hi:k=i
 ·subst hi
  simp [hlt,hv]
 ·simp [hi]
theorem nd_set{L:List Bx}(h:L.Pairwise λa b=>a.1≠b.1)(k:Nat){g:Nat}{t t':TypeId}{cs cs':Array Value}(hk:L[k]?=some (g,t,cs)):
 (L.set k (g,t',cs')).Pairwise (λa b=>a.1≠b.1):=by
 have h':(bl L).Pairwise (·≠·):=List.pairwise_map.2 h
 rw [← bl_set (t':=t') (cs':=cs') k hk] at h'
 exact List.pairwise_map.1 h'
theorem St.write{w0 w w':World}{L:List Bx}(h:St w0 w L)(k:Nat){g:Nat}{t:TypeId}{cs cs':Array Value}(hk:L[k]?=some (g,t,cs))
 (hg:w.grownBy w' (some g)) (hn:w'.heap[g]?=some (.cells cs' t (0,0))):St w0 w' (L.set k (g,t,cs')):=by
 refine ⟨h.below.grown hg h.below.size (λk' hk'=>by cases hk';exact h.base k hk),λb hb=>?_,nd_set h.nd k hk⟩
 obtain ⟨i,hi,rfl⟩:=List.getElem_of_mem hb
 by_cases e:k=i
 ·subst e
  simp only [List.getElem_set_self]
  exact ⟨hn,h.base k hk⟩
 ·rw [List.getElem_set_ne e]
  have hil:i<L.length:=by simpa using hi
  have hkl:k<L.length:=(List.getElem?_eq_some_iff.1 hk).1
  have hm:L[i]∈L:=List.getElem_mem hil
  have hne:(L[i]).1≠g:=by
   have hkv:L[k]=(g,t,cs):=by have:=hk;rw [List.getElem?_eq_getElem hkl] at this;exact Option.some.inj this
   rcases Nat.lt_or_gt_of_ne e with hlt|hgt
   ·have:=List.pairwise_iff_getElem.1 h.nd k i hkl hil hlt
    rw [hkv] at this;exact λe=>this e.symm
   ·have:=List.pairwise_iff_getElem.1 h.nd i k hil hkl hgt
    rw [hkv] at this;exact this
  exact ⟨(hg.block _ (h.lt hm) (λe=>hne (by injection e))).trans (h.box _ hm).1,(h.box _ hm).2⟩
def NoMap(w:World)(k:Nat):Prop:=∀es c,w.heap[k]?≠some (.map es c)
theorem NoMap.of_cell{w:World}{a:Addr}{u:Value}(h:w.cell? a=some u):NoMap w a.block:=λes c e=>by
 unfold World.cell? at h
 rw [e] at h
 cases h
structure Ext (w:World) (X:List Nat) (w':World) (X':List Nat):Prop where
 size:w.heap.size≤w'.heap.size
 block:∀k,k<w.heap.size→k ∉ X→NoMap w k→w'.heap[k]?=w.heap[k]?∧k ∉ X'
theorem Ext.refl(w:World)(X:List Nat):Ext w X w X:=⟨Nat.le_refl _,λ_ _ h _=>⟨rfl,h⟩⟩
theorem Ext.trans{w w' w'':World}{X X' X'':List Nat}(h:Ext w X w' X')(k:Ext w' X' w'' X''):Ext w X w'' X'' :=
 ⟨Nat.le_trans h.size k.size,λi hi hx hm=>by
  obtain ⟨h1,h2⟩:=h.block i hi hx hm
  obtain ⟨k1,k2⟩:=k.block i (Nat.lt_of_lt_of_le hi h.size) h2 (λes c=>by rw [h1];exact hm es c)
  exact ⟨k1.trans h1,k2⟩⟩
theorem Ext.drew(w:World)(X:List Nat):Ext w X w.drew X:=⟨Nat.le_refl _,λ_ _ h _=>⟨rfl,h⟩⟩
theorem Ext.call{w w':World}(X:List Nat)(h:Below w.heap.size w w'):Ext w X w' X:=⟨h.size,λk hk hx _=>⟨h.block k hk,hx⟩⟩
theorem Ext.alloc(w:World)(X:List Nat)(o:Obj):Ext w X (w.alloc o) (w.heap.size :: X) :=
 ⟨by simp,λk hk hx _=>⟨Below.heap_alloc w o k hk,by simp [hx];omega⟩⟩
theorem Ext.alloc_(w:World)(X:List Nat)(o:Obj):Ext w X (w.alloc o) X :=
 ⟨by simp,λk hk hx _=>⟨Below.heap_alloc w o k hk,hx⟩⟩
theorem Ext.write{w w':World}{X:List Nat}{g:Nat}(h:w.grownBy w' (some g))(hg:g∈X):Ext w X w' X :=
 ⟨h.size,λk hk hx _=>⟨h.block k hk (λe=>hx (by injection e with e;rw [e];exact hg)),hx⟩⟩
theorem Ext.drop{w:World}{X X':List Nat}(h:∀x∈X',x∈X):Ext w X w X':=⟨Nat.le_refl _,λ_ _ hx _=>⟨rfl,λh'=>hx (h _ h')⟩⟩
theorem Ext.add{w:World}{X:List Nat}{g:Nat}{w1:World}{X1:List Nat}(h:Ext w1 X1 w X)(hg:w1.heap.size≤g):Ext w1 X1 w (g :: X) :=
 ⟨h.size,λk hk hx hm=>⟨(h.block k hk hx hm).1,by have:=(h.block k hk hx hm).2;simp [this];omega⟩⟩
def Cl(w:World)(X:List Nat)(A:Option Addr)(vs:List Value):Prop :=
 vs≠[]→∃ad,A=some ad∧ad.block<w.heap.size∧ad.block ∉ X∧∀j u,vs[j]?=some u→w.cell? (ad.add j)=some u
theorem block_add(a:Addr)(n:Nat):(a.add n).block=a.block:=by unfold Addr.add;split<;>rfl
theorem add_add'(a:Addr)(i j:Nat):(a.add i).add j=a.add (i+j):=by
 unfold Addr.add
 by_cases hi:i=0<;>by_cases hj:j=0<;>simp [hi,hj,Nat.add_assoc]
theorem Cl.nil(w:World)(X:List Nat)(A:Option Addr):Cl w X A []:=λh=>absurd rfl h
theorem Cl.ext{w w':World}{X X':List Nat}{A:Option Addr}{vs:List Value}(h:Cl w X A vs)(e:Ext w X w' X'):Cl w' X' A vs:=λhv=>by
 obtain ⟨ad,rfl,hb,hx,hc⟩:=h hv
 obtain ⟨e1,e2⟩:=e.block _ hb hx (by
  obtain ⟨u,r,rfl⟩:=List.exists_cons_of_ne_nil hv
  have:=NoMap.of_cell (hc 0 u rfl)
  rw [block_add] at this
  exact this)
 exact ⟨ad,rfl,Nat.lt_of_lt_of_le hb e.size,e2,λj u hu=>(World.cell?_of_block (w:=w) (by rw [block_add];exact e1)).trans (hc j u hu)⟩
theorem Cl.at_{w:World}{X:List Nat}{A:Option Addr}{vs:List Value}(h:Cl w X A vs){j:Nat}{u:Value}(hu:vs[j]?=some u):∃ad,A=some ad∧w.cell? (ad.add j)=some u:=by
 obtain ⟨ad,rfl,_,_,hc⟩:=h (by intro e;subst e;simp at hu)
 exact ⟨ad,rfl,hc j u hu⟩
theorem Cl.at2{w:World}{X:List Nat}{A:Option Addr}{vs:List Value}(h:Cl w X A vs){j:Nat}{u:Value}(hu:vs[j]?=some u):∃ad,A=some ad∧∀{w':World} {X':List Nat},Ext w X w' X'→w'.cell? (ad.add j)=some u:=by
 obtain ⟨ad,rfl,hb,hx,hc⟩:=h (by intro e;subst e;simp at hu)
 exact ⟨ad,rfl,λe=>(World.cell?_of_block (w:=w) (by rw [block_add];exact (e.block _ hb hx (by have:=NoMap.of_cell (hc j u hu);rw [block_add] at this;exact this)).1)).trans (hc j u hu)⟩
theorem Cl.take{w:World}{X:List Nat}{A:Option Addr}{vs:List Value}(h:Cl w X A vs)(n:Nat):Cl w X A (vs.take n):=λhv=>by
 obtain ⟨ad,rfl,hb,hx,hc⟩:=h (by intro e;subst e;simp at hv)
 refine ⟨ad,rfl,hb,hx,λj u hu=>hc j u ?_⟩
 rw [List.getElem?_take] at hu
 split at hu
 ·exact hu
 ·cases hu
theorem Cl.drop{w:World}{X:List Nat}{A:Option Addr}{vs:List Value}(h:Cl w X A vs)(n:Nat):Cl w X (A.map (·.add n)) (vs.drop n):=λhv=>by
 obtain ⟨ad,rfl,hb,hx,hc⟩:=h (by intro e;subst e;simp at hv)
 refine ⟨ad.add n,rfl,by rw [block_add];exact hb,by rw [block_add];exact hx,λj u hu=>?_⟩
 rw [add_add']
 exact hc _ u (by rw [← hu,List.getElem?_drop])
theorem Cl.of_block{w:World}{X:List Nat}{g:Nat}{t:TypeId}{cs:Array Value}{fr:Nat × Nat}(hg:w.heap[g]?=some (.cells cs t fr))(hx:g ∉ X)(n:Nat):Cl w X (some ⟨g,0,none⟩) (cs.toList.take n):=λ_=>by
 refine ⟨_,rfl,lt_of_heap hg,hx,λj u hu=>?_⟩
 rw [Addr.add_lit,Nat.zero_add,cell_of_row w g j cs t fr hg]
 rw [List.getElem?_take] at hu
 split at hu
 ·simpa using hu
 ·cases hu
end Go.Sw
namespace Go.Sw
open Go Go.RowKit
def isRow(P:Program)(t:TypeId)(n:Nat):Bool :=
 (match P.underlying t with|some (.struct _)=>true|some (.array _ _)=>true|_=>false) && decide ((P.info? t).map (·.size)=some n)
def isOne(P:Program)(t:TypeId):Bool :=
 (match P.underlying t with|some (.struct _)=>false|some (.array _ _)=>false|some _=>true|none=>false) && decide ((P.info? t).map (·.size)=some 1)
def fieldOff(P:Program)(t:TypeId)(i:Nat):Option Nat :=
 match P.underlying t with
 |some (.struct fs)=>match fs[i]? with
  |some f=>if (P.info? f.type).map (·.size)=some 0 then none else if (P.info? f.type).isSome then some f.offset else none
  |none=>none
 |_=>none
def sliceOf(P:Program)(t:TypeId):Option (TypeId × Nat) :=
 match P.underlying t with
 |some (.slice e)=>(P.info? e).map λi=>(e,i.size)
 |_=>none
def zeroOf(P:Program)(t:TypeId):Option (Array Value):=(P.info? t).bind λi=>i.zero.map Value.cells
def intOfT(P:Program)(t:TypeId):Option IntKind:=match P.underlying t with|some (.int k)=>some k|_=>none
section
variable {P:Program} {ρ:Operand→Value} {w:World} {d:Option Tmp} {ty:TypeId} {pos:String} {af:Array Edge} {gd:Option (Nat × Bool)}
theorem ex_move{x:Operand}{v:Value}(hx:ρ x=v):(execOp ρ ⟨d,.move x,ty,pos,af,gd⟩).run P w=.ok (.value v) w:=by
 simp [execOp,hx]
theorem ex_assign{x:Operand}{v:Value}(hx:ρ x=v):(execOp ρ ⟨d,.assign x,ty,pos,af,gd⟩).run P w=.ok (.value v) w:=by
 simp [execOp,hx]
theorem ex_pick{c a b:Operand}{p:Bool}{u v r:Value}(hc:ρ c=.bool p)(ha:p=true→ρ a=u)(hb:p=false→ρ b=v)(hr:r=if p then u else v):
 (execOp ρ ⟨d,.pick c a b,ty,pos,af,gd⟩).run P w=.ok (.value r) w:=by
 subst hr
 cases p
 ·simp [execOp,hc,asBool,hb rfl]
 ·simp [execOp,hc,asBool,ha rfl]
theorem ex_add{t u:TypeId}{x y:Operand}{k:IntKind}{a b c:Int}(hx:ρ x=.int k a)(hy:ρ y=.int k b)(hc:k.wrap (a+b)=c):
 (execOp ρ ⟨d,.binOp .add t x y u,ty,pos,af,gd⟩).run P w=.ok (.value (.int k c)) w:=by
 simp [execOp,hx,hy,go_sem,Op.intArith,hc]
theorem ex_sub{t u:TypeId}{x y:Operand}{k:IntKind}{a b c:Int}(hx:ρ x=.int k a)(hy:ρ y=.int k b)(hc:k.wrap (a-b)=c):
 (execOp ρ ⟨d,.binOp .sub t x y u,ty,pos,af,gd⟩).run P w=.ok (.value (.int k c)) w:=by
 simp [execOp,hx,hy,go_sem,Op.intArith,hc]
theorem ex_mul{t u:TypeId}{x y:Operand}{k:IntKind}{a b c:Int}(hx:ρ x=.int k a)(hy:ρ y=.int k b)(hc:k.wrap (a*b)=c):
 (execOp ρ ⟨d,.binOp .mul t x y u,ty,pos,af,gd⟩).run P w=.ok (.value (.int k c)) w:=by
 simp [execOp,hx,hy,go_sem,Op.intArith,hc]
theorem ex_quo{t u:TypeId}{x y:Operand}{k:IntKind}{a b c:Int}(hx:ρ x=.int k a)(hy:ρ y=.int k b)(hb:b≠0)(hc:k.wrap (a.tdiv b)=c):
 (execOp ρ ⟨d,.binOp .quo t x y u,ty,pos,af,gd⟩).run P w=.ok (.value (.int k c)) w:=by
 simp [execOp,hx,hy,go_sem,Op.intDiv,hb,hc]
theorem ex_rem{t u:TypeId}{x y:Operand}{k:IntKind}{a b c:Int}(hx:ρ x=.int k a)(hy:ρ y=.int k b)(hb:b≠0)(hc:a.tmod b=c):
 (execOp ρ ⟨d,.binOp .rem t x y u,ty,pos,af,gd⟩).run P w=.ok (.value (.int k c)) w:=by
 simp [execOp,hx,hy,go_sem,Op.intDiv,hb,hc]
theorem ex_eql{t u:TypeId}{x y:Operand}{k:IntKind}{a b:Int}(hx:ρ x=.int k a)(hy:ρ y=.int k b):
 (execOp ρ ⟨d,.binOp .eql t x y u,ty,pos,af,gd⟩).run P w=.ok (.value (.bool (decide (a=b)))) w:=by
 simp [execOp,hx,hy,go_sem];rfl
theorem ex_neq{t u:TypeId}{x y:Operand}{k:IntKind}{a b:Int}(hx:ρ x=.int k a)(hy:ρ y=.int k b):
 (execOp ρ ⟨d,.binOp .neq t x y u,ty,pos,af,gd⟩).run P w=.ok (.value (.bool (!decide (a=b)))) w:=by
 simp [execOp,hx,hy,go_sem,bne];rfl
theorem ex_lss{t u:TypeId}{x y:Operand}{k:IntKind}{a b:Int}(hx:ρ x=.int k a)(hy:ρ y=.int k b):
 (execOp ρ ⟨d,.binOp .lss t x y u,ty,pos,af,gd⟩).run P w=.ok (.value (.bool (decide (a<b)))) w:=by
 simp [execOp,hx,hy,go_sem]
theorem ex_leq{t u:TypeId}{x y:Operand}{k:IntKind}{a b:Int}(hx:ρ x=.int k a)(hy:ρ y=.int k b):
 (execOp ρ ⟨d,.binOp .leq t x y u,ty,pos,af,gd⟩).run P w=.ok (.value (.bool (decide (a≤b)))) w:=by
 simp [execOp,hx,hy,go_sem]
theorem ex_gtr{t u:TypeId}{x y:Operand}{k:IntKind}{a b:Int}(hx:ρ x=.int k a)(hy:ρ y=.int k b):
 (execOp ρ ⟨d,.binOp .gtr t x y u,ty,pos,af,gd⟩).run P w=.ok (.value (.bool (decide (a > b)))) w:=by
 simp [execOp,hx,hy,go_sem]
theorem ex_geq{t u:TypeId}{x y:Operand}{k:IntKind}{a b:Int}(hx:ρ x=.int k a)(hy:ρ y=.int k b):
 (execOp ρ ⟨d,.binOp .geq t x y u,ty,pos,af,gd⟩).run P w=.ok (.value (.bool (decide (a≥b)))) w:=by
 simp [execOp,hx,hy,go_sem]
theorem run_equal_bool(t:TypeId)(h:P.underlying t=some .bool)(a b:Bool):(Op.equal t (.bool a) (.bool b)).run P w=.ok (a == b) w:=by
 unfold Op.equal
 show (Op.equalIn (9999+1) t _ _).run P w=_
 rw [Op.equalIn]
 simp [run_underlying h]
theorem ex_eqb{t u:TypeId}{x y:Operand}{a b:Bool}(ht:P.underlying t=some .bool)(hx:ρ x=.bool a)(hy:ρ y=.bool b):
 (execOp ρ ⟨d,.binOp .eql t x y u,ty,pos,af,gd⟩).run P w=.ok (.value (.bool (a == b))) w:=by
 simp [execOp,hx,hy,go_sem,binOp,run_equal_bool t ht]
theorem ex_neb{t u:TypeId}{x y:Operand}{a b:Bool}(ht:P.underlying t=some .bool)(hx:ρ x=.bool a)(hy:ρ y=.bool b):
 (execOp ρ ⟨d,.binOp .neq t x y u,ty,pos,af,gd⟩).run P w=.ok (.value (.bool (a != b))) w:=by
 simp [execOp,hx,hy,go_sem,binOp,run_equal_bool t ht,bne]
theorem ex_not{t:TypeId}{x:Operand}{a:Bool}(hx:ρ x=.bool a):(execOp ρ ⟨d,.unOp .not t x,ty,pos,af,gd⟩).run P w=.ok (.value (.bool (!a))) w:=by
 simp [execOp,hx,Op.unary]
theorem ex_neg{t:TypeId}{x:Operand}{k:IntKind}{a c:Int}(hx:ρ x=.int k a)(hc:k.wrap (0-a)=c):(execOp ρ ⟨d,.unOp .neg t x,ty,pos,af,gd⟩).run P w=.ok (.value (.int k c)) w:=by
 simp only [Int.zero_sub] at hc
 simp [execOp,hx,Op.unary,Op.intArith,hc]
theorem ex_conv{src dst:TypeId}{x:Operand}{k k':IntKind}{a c:Int}(hs:(P.underlying src).isSome=true)(hd:P.underlying dst=some (.int k'))(hx:ρ x=.int k a)(hc:k'.wrap a=c):
 (execOp ρ ⟨d,.convert src dst x,ty,pos,af,gd⟩).run P w=.ok (.value (.int k' c)) w:=by
 cases hq:P.underlying src with
 |none=>simp [hq] at hs
 |some q=>simp [execOp,hx,convert,run_underlying hq,run_underlying hd,Conv.intToInt,hc]
theorem ex_len{t:TypeId}{x:Operand}{A:Option Addr}{n c:Nat}(ht:(sliceOf P t).isSome=true)(hx:ρ x=.slice A n c):
 (execOp ρ ⟨d,.call ⟨.builtin .len,#[x],#[t]⟩,ty,pos,af,gd⟩).run P w=.ok (.value (.int .i64 n)) w:=by
 unfold sliceOf at ht
 split at ht
 ·rename_i e he
  simp [execOp,hx,resolve,invoke,builtin,Builtin.len_,run_underlying he,goInt]
 ·cases ht
theorem ex_extract{x:Operand}{vs:Array Value}{i:Nat}{v:Value}(hx:ρ x=.tuple vs)(hv:vs[i]?=some v):
 (execOp ρ ⟨d,.extract x i,ty,pos,af,gd⟩).run P w=.ok (.value v) w:=by
 simp [execOp,hx,Instr.extract,hv]
theorem ex_field_addr{t:TypeId}{x:Operand}{i off g o:Nat}(ht:fieldOff P t i=some off)(hx:ρ x=.pointer (some ⟨g,o,none⟩)):
 (execOp ρ ⟨d,.fieldAddr t x i,ty,pos,af,gd⟩).run P w=.ok (.value (.pointer (some ⟨g,o+off,none⟩))) w:=by
 unfold fieldOff at ht
 split at ht
 ·rename_i fs hf
  split at ht
  ·rename_i f hi
   split at ht
   ·cases ht
   ·rename_i h0
    split at ht
    ·rename_i hso
     simp only [Option.some.injEq] at ht
     subst ht
     cases hq:P.info? f.type with
     |none=>simp [hq] at hso
     |some j =>
      have hj:¬ j.size=0:=by simpa [hq] using h0
      simp [execOp,hx,Instr.fieldAt,run_underlying hf,hi,Instr.sureAddr,fieldPlace,sizeOf,typeInfo,hq,hj,Addr.add_lit]
    ·cases ht
  ·cases ht
 ·cases ht
theorem run_isAgg_row{t:TypeId}{n:Nat}(h:isRow P t n=true):(isAgg t).run P w=.ok true w:=by
 simp only [isRow,Bool.and_eq_true] at h
 have h1:=h.1
 unfold isAgg
 cases hu:P.underlying t with
 |none=>simp [hu] at h1
 |some dd =>
  rw [Sem.run_bind,run_underlying hu w]
  cases dd<;>simp_all
theorem run_sizeOf_row{t:TypeId}{n:Nat}(h:isRow P t n=true):(sizeOf t).run P w=.ok n w:=by
 simp only [isRow,Bool.and_eq_true,decide_eq_true_eq] at h
 cases hq:P.info? t with
 |none=>simp [hq] at h
 |some i=>have:=h.2;simp [hq] at this;simp [sizeOf,typeInfo,hq,this]
theorem run_isAgg_one{t:TypeId}(h:isOne P t=true):(isAgg t).run P w=.ok false w:=by
 simp only [isOne,Bool.and_eq_true] at h
 have h1:=h.1
 unfold isAgg
 cases hu:P.underlying t with
 |none=>simp [hu] at h1
 |some dd =>
  rw [Sem.run_bind,run_underlying hu w]
  cases dd<;>simp_all
theorem run_sizeOf_one{t:TypeId}(h:isOne P t=true):(sizeOf t).run P w=.ok 1 w:=by
 simp only [isOne,Bool.and_eq_true,decide_eq_true_eq] at h
 cases hq:P.info? t with
 |none=>simp [hq] at h
 |some i=>have:=h.2;simp [hq] at this;simp [sizeOf,typeInfo,hq,this]
theorem ex_load1{t:TypeId}{x:Operand}{a:Addr}{v:Value}(ht:isOne P t=true)(hx:ρ x=.pointer (some a))(hc:w.cell? a=some v):
 (execOp ρ ⟨d,.load t x,ty,pos,af,gd⟩).run P w=.ok (.value v) w:=by
 simp [execOp,hx,Instr.loadAt,Instr.sureAddr,loadVar,run_isAgg_one ht,hc]
theorem ex_loadn{t:TypeId}{x:Operand}{a:Addr}{cs:Array Value}(ht:isRow P t cs.size=true)(hx:ρ x=.pointer (some a))(hc:∀j u,cs[j]?=some u→w.cell? (a.add j)=some u):
 (execOp ρ ⟨d,.load t x,ty,pos,af,gd⟩).run P w=.ok (.value (.agg cs)) w:=by
 have hl:=run_loadCells_list (P:=P) w a cs.toList (λj v hv=>hc j v (by simpa using hv))
 simp only [Array.length_toList,Array.toArray_toList] at hl
 simp [execOp,hx,Instr.loadAt,Instr.sureAddr,loadVar,run_isAgg_row ht,run_sizeOf_row ht,hl]
theorem ex_load1b{t T:TypeId}{x:Operand}{g o:Nat}{cs:Array Value}{v:Value}(ht:isOne P t=true)(hx:ρ x=.pointer (some ⟨g,o,none⟩))(hg:w.heap[g]?=some (.cells cs T (0,0)))(hv:cs[o]?=some v):
 (execOp ρ ⟨d,.load t x,ty,pos,af,gd⟩).run P w=.ok (.value v) w :=
 ex_load1 ht hx ((cell_of_row w g o cs T _ hg).trans hv)
theorem ex_loadb{t T:TypeId}{x:Operand}{g n:Nat}{cs:Array Value}(ht:isRow P t n=true)(hx:ρ x=.pointer (some ⟨g,0,none⟩))(hg:w.heap[g]?=some (.cells cs T (0,0)))(hn:cs.size=n):
 (execOp ρ ⟨d,.load t x,ty,pos,af,gd⟩).run P w=.ok (.value (.agg cs)) w:=by
 subst hn
 refine ex_loadn ht hx (λj u hu=>?_)
 rw [Addr.add_lit,Nat.zero_add,cell_of_row w g _ cs T _ hg]
 exact hu
theorem ex_index_addr{t e:TypeId}{s:Nat}{x y:Operand}{ad:Addr}{n c:Nat}{k:IntKind}{i:Int}(ht:sliceOf P t=some (e,s))(hx:ρ x=.slice (some ad) n c)(hy:ρ y=.int k i)(h0:0≤i)(h1:i<n):
 (execOp ρ ⟨d,.indexAddr t x y,ty,pos,af,gd⟩).run P w=.ok (.value (.pointer (some (ad.add (i.toNat * s))))) w:=by
 unfold sliceOf at ht
 split at ht
 ·rename_i e' he
  cases hq:P.info? e' with
  |none=>simp [hq] at ht
  |some j =>
   simp only [hq,Option.map_some,Option.some.injEq,Prod.mk.injEq] at ht
   obtain ⟨rfl,rfl⟩:=ht
   simp [execOp,hx,hy,Instr.indexAt,asIntOf,run_underlying he,h0,h1,sizeOf,typeInfo,hq]
 ·cases ht
theorem ex_alloc{t:TypeId}{z:Array Value}(hz:zeroOf P t=some z):
 (execOp ρ ⟨d,.alloc t,ty,pos,af,gd⟩).run P w=.ok (.value (.pointer (some ⟨w.heap.size,0,none⟩))) (w.alloc (.cells z t)):=by
 unfold zeroOf at hz
 cases hq:P.info? t with
 |none=>simp [hq] at hz
 |some i =>
  cases hzz:i.zero with
  |none=>simp [hq,hzz] at hz
  |some v =>
   simp [hq,hzz] at hz
   subst hz
   simp [execOp,Instr.alloc,zeroValue,typeInfo,hq,hzz,newVar,newRow]
theorem ex_box{t:TypeId}{x:Operand}{v:Value}(hx:ρ x=v):
 (execOp ρ ⟨d,.box t x,ty,pos,af,gd⟩).run P w=.ok (.value (.pointer (some ⟨w.heap.size,0,none⟩))) (w.alloc (.cells v.cells t)):=by
 simp [execOp,hx,Instr.box,newVar,newRow]
def hasBody(P:Program)(f:FuncId):Bool:=match P.funcs[f]? with|some fn=>fn.body.isSome && !(fn.name == "runtime.NumGoroutine")|none=>false
theorem ex_call{f:FuncId}{xs:Array Operand}{ts:Array TypeId}{vs:Array Value}(hf:hasBody P f=true)(hv:xs.map ρ=vs)(hfn:ρ (.func f)=.func (.func f) #[] #[]):
 (execOp ρ ⟨d,.call ⟨.value (.func f),xs,ts⟩,ty,pos,af,gd⟩).run P w=.ok (.enter f vs) w:=by
 unfold hasBody at hf
 cases hq:P.funcs[f]? with
 |none=>simp [hq] at hf
 |some fn =>
  simp only [hq,Bool.and_eq_true,Bool.not_eq_true'] at hf
  obtain ⟨h1,h2⟩:=hf
  have h2':¬ fn.name = "runtime.NumGoroutine" := by simpa using h2
  cases hb:fn.body with
  |none=>simp [hb] at h1
  |some c=>simp [execOp,resolve,hfn,Deferred.ofValue,invoke,callFunc,hq,h2',hb,hv]
end
end Go.Sw
namespace Go.Sw
open Go Go.RowKit
def Ret(R:Value→World→Prop):Ending→World→Prop:=λe w=>∃v,e=.returned v∧R v w
section
variable {P:Program} {Q:Exit→Act→World→Prop} {a:Act} {w:World} {o:Oper} {K:Act→World→Prop} {N:Nat} {L:List (Nat × Value)} {w0:World} {S:List Bx} {X:List Nat}
theorem op_val{d:Nat}{v:Value}{w':World}(hF:Frm N a L)(hd:o.dst=some d)(hlt:Nat.blt d N=true)(hr:(execOp a.eval o).run P w=.ok (.value v) w')
 (k:Frm N (a.put (some d) v) ((d,v) :: L)→K (a.put (some d) v) w'):o.wp P a w K Q:=by
 have h:=k (hF.put (by simpa [Nat.blt_eq] using hlt) v)
 unfold Oper.wp
 rw [hr]
 simp only [Oper.upon,hd]
 exact h
theorem op_alloc{d:Nat}{t:TypeId}{z:Array Value}{ty:TypeId}{pos:String}{af:Array Edge}{gd:Option (Nat × Bool)}(hF:Frm N a L)(hS:St w0 w S)(hlt:Nat.blt d N=true)(hz:zeroOf P t=some z)
 (k:∀g w',w.heap.size≤g→St w0 w' ((g,t,z) :: S)→Ext w X w' (g :: X)→Frm N (a.put (some d) (.pointer (some ⟨g,0,none⟩))) ((d,.pointer (some ⟨g,0,none⟩)) :: L)→K (a.put (some d) (.pointer (some ⟨g,0,none⟩))) w') :
 Oper.wp P ⟨some d,.alloc t,ty,pos,af,gd⟩ a w K Q :=
 op_val hF rfl hlt (ex_alloc hz) λh=>k _ _ (Nat.le_refl _) (hS.alloc _ _) (Ext.alloc _ _ _) h
theorem op_box{d:Nat}{t:TypeId}{x:Operand}{v:Value}{cs:Array Value}{ty:TypeId}{pos:String}{af:Array Edge}{gd:Option (Nat × Bool)}(hF:Frm N a L)(hS:St w0 w S)(hlt:Nat.blt d N=true)(hx:ev L x=some v)(hv:v.cells=cs)
 (k:∀g w',w.heap.size≤g→St w0 w' ((g,t,cs) :: S)→Ext w X w' (g :: X)→Frm N (a.put (some d) (.pointer (some ⟨g,0,none⟩))) ((d,.pointer (some ⟨g,0,none⟩)) :: L)→K (a.put (some d) (.pointer (some ⟨g,0,none⟩))) w') :
 Oper.wp P ⟨some d,.box t x,ty,pos,af,gd⟩ a w K Q:=by
 subst hv
 exact op_val hF rfl hlt (ex_box (hF.ev hx)) λh=>k _ _ (Nat.le_refl _) (hS.alloc _ _) (Ext.alloc _ _ _) h
theorem op_call{d:Nat}{f:FuncId}{xs:Array Operand}{ts:Array TypeId}{vs:Array Value}{R:Value→World→Prop}{ty:TypeId}{pos:String}{af:Array Edge}{gd:Option (Nat × Bool)}(hF:Frm N a L)(hlt:Nat.blt d N=true)
 (hf:hasBody P f=true) (hv:xs.map a.eval=vs) (hc:Calls P f vs w (Ret R)) (k:∀v w',R v w'→Frm N (a.put (some d) v) ((d,v) :: L)→K (a.put (some d) v) w') :
 Oper.wp P ⟨some d,.call ⟨.value (.func f),xs,ts⟩,ty,pos,af,gd⟩ a w K Q:=by
 unfold Oper.wp
 rw [ex_call hf hv rfl]
 simp only [Oper.upon]
 refine hc.mono ?_
 rintro e w' ⟨v,rfl,hR⟩
 exact k v w' hR (hF.put (by simpa [Nat.blt_eq] using hlt) v)
def splice(cs:Array Value)(o:Nat)(vs:Array Value):Array Value:=(cs.toList.take o++vs.toList++cs.toList.drop (o+vs.size)).toArray
theorem grownBy_setRow(w:World)(g:Nat)(cs:Array Value):w.grownBy (w.setRow g cs) (some g) :=
 ⟨rfl,rfl,rfl,by simp,λk _ hk=>setRow_other w g k _ (λe=>hk (by rw [e]))⟩
theorem run_storeAt{t T:TypeId}{g off:Nat}{v:Value}{vs cs:Array Value}(hv:v.cells=vs)(hsz:(P.info? t).map (·.size)=some vs.size)(h1:vs.toList.all Value.oneCell'=true)
 (hg:w.heap[g]?=some (.cells cs T (0,0))) (hfit:off+vs.size≤cs.size) :
 (Instr.storeAt t (.pointer (some ⟨g,off,none⟩)) v).run P w=.ok () (w.setRow g (splice cs off vs)):=by
 subst hv
 cases hq:P.info? t with
 |none=>simp [hq] at hsz
 |some i =>
  have hi:i.size=v.cells.size:=by simpa [hq] using hsz
  have hst:=run_storeCells_at P g off T v.cells.toList 0 cs w hg (by simpa using hfit) (List.all_eq_true.1 h1)
  simp only [Nat.add_zero,Array.length_toList] at hst
  simp [Instr.storeAt,Instr.sureAddr,storeVar,sizeOf,typeInfo,hq,hi,hst,splice]
theorem op_store{t T:TypeId}{x y:Operand}{g off:Nat}{v:Value}{vs cs:Array Value}{ty:TypeId}{pos:String}{af:Array Edge}{gd:Option (Nat × Bool)}(hF:Frm N a L)(hS:St w0 w S)(j:Nat)(hj:S[j]?=some (g,T,cs))(hg:g∈X)
 (hx:ev L x=some (.pointer (some ⟨g,off,none⟩))) (hy:ev L y=some v) (hv:v.cells=vs) (hsz:(P.info? t).map (·.size)=some vs.size) (h1:vs.toList.all Value.oneCell'=true) (hfit:off+vs.size≤cs.size)
 (k:∀w',St w0 w' (S.set j (g,T,splice cs off vs))→Ext w X w' X→K a w') :
 Oper.wp P ⟨none,.store t x y,ty,pos,af,gd⟩ a w K Q:=by
 unfold Oper.wp
 have hr:(execOp a.eval ⟨none,.store t x y,ty,pos,af,gd⟩).run P w=.ok .skip (w.setRow g (splice cs off vs)):=by
  simp [execOp,hF.ev hx,hF.ev hy,run_storeAt hv hsz h1 (hS.get j hj) hfit]
 rw [hr]
 simp only [Oper.upon,Act.put]
 have hgr:=grownBy_setRow w g (splice cs off vs)
 exact k _ (hS.write j hj hgr (setRow_heap w g cs _ T _ (hS.get j hj))) (Ext.write hgr hg)
variable {ops:Array Oper} {rest:List Oper}
theorem st(hg:o.guard=none)(h:o.wp P a w (wpList P ops Q rest) Q):wpList P ops Q (o :: rest) a w :=
 wpList_plain hg λ_ hK=>Oper.wp_mono hK h
theorem st_val{d:Nat}{v:Value}{w':World}(hF:Frm N a L)(hg:o.guard=none)(hd:o.dst=some d)(hlt:Nat.blt d N=true)(hr:(execOp a.eval o).run P w=.ok (.value v) w')
 (k:∀a',Frm N a' ((d,v) :: L)→wpList P ops Q rest a' w'):wpList P ops Q (o :: rest) a w :=
 st hg (op_val hF hd hlt hr λh=>k _ h)
def said(ops:Array Oper)(L:List (Nat × Value))(j:Nat):Option Bool :=
 match ops[j]? with
 |some o=>match o.dst with
  |some d=>match lk d L with
   |some (.bool b)=>some b
   |_=>none
  |none=>none
 |none=>none
theorem yielded_of{j:Nat}{b:Bool}(hF:Frm N a L)(h:said ops L j=some b):yielded ops a.tmps j=some b:=by
 unfold said at h
 split at h
 ·rename_i o ho
  split at h
  ·rename_i d hd
   split at h
   ·rename_i c hl
    simp only [Option.some.injEq] at h
    subst h
    have hg:=hF.get d _ hl
    unfold yielded
    rw [ho]
    simp only [Option.bind_some,hd]
    cases ht:a.tmps[d]? with
    |none=>simp [Array.getD_eq_getD_getElem?,ht,undef] at hg
    |some u=>simp [Array.getD_eq_getD_getElem?,ht] at hg;simp [hg]
   ·cases h
  ·cases h
 ·cases h
theorem st_skip{d j:Nat}{b c:Bool}(hF:Frm N a L)(hg:o.guard=some (j,b))(hd:o.dst=some d)(hlt:Nat.blt d N=true)(hs:said ops L j=some c)(hne:(c == b)=false)
 (k:∀a',Frm N a' ((d,undef) :: L)→wpList P ops Q rest a' w):wpList P ops Q (o :: rest) a w:=by
 refine wpList_skip ?_ ?_
 ·simp only [Region.wanted,hg,yielded_of hF hs]
  cases c<;>cases b<;>first|rfl|cases hne
 ·rw [hd]
  exact k _ (hF.put (by simpa [Nat.blt_eq] using hlt) undef)
theorem stg{j:Nat}{b:Bool}(hF:Frm N a L)(hg:o.guard=some (j,b))(hs:said ops L j=some b)(h:o.wp P a w (wpList P ops Q rest) Q):wpList P ops Q (o :: rest) a w:=by
 unfold wpList
 rw [if_pos (by simp [Region.wanted,hg,yielded_of hF hs])]
 exact .inl h
theorem stg_val{d j:Nat}{b:Bool}{v:Value}{w':World}(hF:Frm N a L)(hg:o.guard=some (j,b))(hs:said ops L j=some b)(hd:o.dst=some d)(hlt:Nat.blt d N=true)(hr:(execOp a.eval o).run P w=.ok (.value v) w')
 (k:∀a',Frm N a' ((d,v) :: L)→wpList P ops Q rest a' w'):wpList P ops Q (o :: rest) a w :=
 stg hF hg hs (op_val hF hd hlt hr λh=>k _ h)
theorem gen_(h:∀a',Frm N a' L→K a' w):Frm N a L→K a w:=h a
variable {x y c:Code} {K':Act→World→Prop}
theorem c_seq(h:x.wp P (Exit.then (y.wp P Q) Q) a w):(Code.seq x y).wp P Q a w:=wp_seq h
theorem c_cut(K:Act→World→Prop)(hx:x.wp P (Exit.then K Q) a w)(hy:∀a w,K a w→y.wp P Q a w):(Code.seq x y).wp P Q a w :=
 wp_seq (Code.wp_mono (λe a w q=>by cases e<;>first|exact hy _ _ q|exact q) hx)
theorem c_reg{id:Nat}{l:List Oper}(h:wpList P l.toArray Q l a w):(Code.region id l.toArray false).wp P Q a w:=wp_region_lit h
theorem c_nil_then(h:K' a w):wpList P ops (Exit.then K' Q) [] a w:=h
theorem c_nil(h:Q .normal a w):wpList P ops Q [] a w:=h
theorem c_cond{t:Nat}{b:Bool}(hF:Frm N a L)(hc:lk t L=some (.bool b))(ht:b=true→x.wp P Q a w)(hf:b=false→y.wp P Q a w):(Code.cond (.tmp t) x y).wp P Q a w :=
 wp_cond_split (hF.get t _ hc) ht hf
theorem c_skip(h:Q .normal a w):Code.skip.wp P Q a w:=wp_skip h
theorem c_ret(h:Q .ret a w):Code.ret.wp P Q a w:=wp_ret h
theorem c_exit{id:Nat}(h:Q (.exit id) a w):(Code.exit id).wp P Q a w:=wp_exit h
theorem c_block{id:Nat}(h:c.wp P (Exit.inBlock id Q) a w):(Code.block id c).wp P Q a w:=wp_block h
theorem x_tn(h:K' a w):Exit.then K' Q .normal a w:=h
theorem x_tr(h:Q .ret a w):Exit.then K' Q .ret a w:=h
theorem x_te{i:Nat}(h:Q (.exit i) a w):Exit.then K' Q (.exit i) a w:=h
theorem x_bn{id:Nat}(h:Q .normal a w):Exit.inBlock id Q .normal a w:=h
theorem x_br{id:Nat}(h:Q .ret a w):Exit.inBlock id Q .ret a w:=h
theorem x_bh{id:Nat}(h:Q .normal a w):Exit.inBlock id Q (.exit id) a w:=by simpa [Exit.inBlock] using h
theorem x_bm{id i:Nat}(hne:Nat.beq i id=false)(h:Q (.exit i) a w):Exit.inBlock id Q (.exit i) a w:=by
 have:i≠id:=λe=>by subst e;simp at hne
 simpa [Exit.inBlock,this] using h
theorem c_loop(I:Nat→Act→World→Prop)(h0:∃n,I n a w)(round:∀n a w,I n a w→c.wp P (Exit.then (λa' w'=>∃m,m<n∧I m a' w') Q) a w):(Code.loop c).wp P Q a w:=by
 intro b k cs
 have key:∀n a w,I n a w→∃e a' w',Q e a' w'∧Arrives P (lone (b.at a (.code c :: .inLoop c :: k)) cs w) b k cs e a' w':=by
  intro n
  induction n using Nat.strongRecOn with
  |_ n ih =>
   intro a w hI
   obtain ⟨e,a₁,w₁,hq,harr⟩:=round n a w hI b (.inLoop c :: k) cs
   cases e with
   |normal =>
    obtain ⟨m,hlt,hI₁⟩:=hq
    obtain ⟨e₂,a₂,w₂,hq₂,harr₂⟩:=ih m hlt a₁ w₁ hI₁
    exact ⟨e₂,a₂,w₂,hq₂,.of_steps (Steps.trans harr (.one step_inLoop)) harr₂⟩
   |exit id=>exact ⟨_,a₁,w₁,hq,.pass (x:=.inLoop c) rfl (λ_ _ => .inl (by simp)) harr⟩
   |goto l=>exact ⟨_,a₁,w₁,hq,.pass (x:=.inLoop c) rfl (λ_ _ => .inl (by simp)) harr⟩
   |ret=>exact ⟨_,a₁,w₁,hq,.pass (x:=.inLoop c) rfl (λ_ _ => .inl (by simp)) harr⟩
   |panic ch=>exact ⟨_,a₁,w₁,hq,.pass (x:=.inLoop c) rfl (λ_ _ => .inl (by simp)) harr⟩
   |outgrown=>exact ⟨_,a₁,w₁,hq,.pass (x:=.inLoop c) rfl (λ_ _ => .inl (by simp)) harr⟩
 obtain ⟨n0,h0⟩:=h0
 obtain ⟨e,a',w',hq,harr⟩:=key n0 a w h0
 exact ⟨e,a',w',hq,.of_steps (.one step_loop) harr⟩
def argL:Nat→List Value→List (Nat × Value)
 |_,[]=>[]
 |i,v :: r=>(i,v) :: argL (i+1) r
theorem lk_argL:∀(vs:List Value) (i t:Nat) (v:Value),lk t (argL i vs)=some v→i≤t∧vs[t-i]?=some v
 |[],_,_,_,h=>by simp [argL,lk] at h
 |u :: r,i,t,v,h=>by
  simp only [argL,lk] at h
  by_cases e:i=t
  ·subst e
   simp at h
   simp [h]
  ·rw [beq_no e] at h
   obtain ⟨h1,h2⟩:=lk_argL r (i+1) t v h
   refine ⟨by omega, ?_⟩
   rw [show t-i=(t-(i+1))+1 by omega]
   simpa using h2
theorem enter{f:FuncId}{fn:Func}{vs:List Value}{R:Ending→World→Prop}(hf:P.funcs[f]?=some fn)(hb:fn.body=some c)(hn:fn.ntmps=N)(hle:Nat.ble vs.length N=true)
 (h:∀a,Frm N a (argL 0 vs)→c.wp P (bodyPost P fn R) a w):Calls P f vs.toArray w R:=by
 refine calls_of_wp hf hb (h _ ⟨?_,rfl,λt v hv=>?_⟩)
 ·have:vs.length≤N:=by simpa [Nat.ble_eq] using hle
  simp [hn];omega
 ·obtain ⟨_,h2⟩:=lk_argL vs 0 t v hv
  simp only [Nat.sub_zero] at h2
  have hlt:t<vs.length:=(List.getElem?_eq_some_iff.1 h2).1
  have h3:vs[t]=v:=(List.getElem?_eq_some_iff.1 h2).2
  simp [Array.getD_eq_getD_getElem?,Array.getElem?_append,hlt,h3]
def resRun(tmps:Array Value):ResultVar→Sem Value
 |.tmp t=>pure (tmps.getD t undef)
 |.cell a t=>do loadVar t (← asAddr (tmps.getD a undef))
theorem res_tmp{t:Nat}{v:Value}(hF:Frm N a L)(h:lk t L=some v):(resRun a.tmps (.tmp t)).run P w=.ok v w:=by
 simp only [resRun];rw [hF.get t v h];rfl
theorem res_cell{t g n:Nat}{T T':TypeId}{cs:Array Value}(hF:Frm N a L)(h:lk t L=some (.pointer (some ⟨g,0,none⟩)))(hT:isRow P T n=true)(hg:w.heap[g]?=some (.cells cs T' (0,0)))(hn:cs.size=n):
 (resRun a.tmps (.cell t T)).run P w=.ok (.agg cs) w:=by
 simp only [resRun]
 rw [hF.get t _ h]
 have:=ex_loadb (P:=P) (ρ:=λ_ => .pointer (some ⟨g,0,none⟩)) (d:=none) (ty:=0) (pos := "") (af:=#[]) (gd:=none) (x:=.tmp 0) hT rfl hg hn
 simp only [execOp,Instr.loadAt,Instr.sureAddr,Sem.run_bind,Sem.run_pure,Result.andThen_ok] at this
 simp only [asAddr,Sem.run_bind,Sem.run_pure,Result.andThen_ok]
 cases hl:(loadVar T ⟨g,0,none⟩).run P w with
 |ok u w1=>rw [hl] at this;simp at this;simp [this]
 |halt u w1=>rw [hl] at this;simp at this
theorem run_results{fn:Func}(w:World):(results fn a.tmps).run P w=(fn.results.mapM (resRun a.tmps) >>= λvs=>pure (if h:vs.size=1 then vs[0] else .tuple vs)).run P w:=by
 unfold results
 congr 1
theorem end1{fn:Func}{r:ResultVar}{v:Value}{R:Ending→World→Prop}(hF:Frm N a L)(hr:fn.results = #[r])(h1:(resRun a.tmps r).run P w=.ok v w)(h:R (.returned v) w):bodyPost P fn R .ret a w :=
 ⟨hF.defers,v,by rw [run_results,hr];simp [h1],h⟩
theorem end2{fn:Func}{r s:ResultVar}{v u:Value}{R:Ending→World→Prop}(hF:Frm N a L)(hr:fn.results = #[r,s])(h1:(resRun a.tmps r).run P w=.ok v w)(h2:(resRun a.tmps s).run P w=.ok u w)(h:R (.returned (.tuple #[v,u])) w):bodyPost P fn R .ret a w :=
 ⟨hF.defers,_,by rw [run_results,hr];simp [h1,h2],h⟩
theorem end0{fn:Func}{R:Ending→World→Prop}(hF:Frm N a L)(hr:fn.results = #[])(h:R (.returned (.tuple #[])) w):bodyPost P fn R .normal a w :=
 ⟨hF.defers,_,by rw [run_results,hr];simp,h⟩
end
end Go.Sw
namespace Go.Sw
open Go Go.RowKit
theorem args1{a:Act}{x:Operand}{u:Value}(h:a.eval x=u):#[x].map a.eval = #[u]:=by simp [h]
theorem args2{a:Act}{x y:Operand}{u v:Value}(h:a.eval x=u)(k:a.eval y=v):#[x,y].map a.eval = #[u,v]:=by simp [h,k]
theorem args3{a:Act}{x y z:Operand}{u v t:Value}(h:a.eval x=u)(k:a.eval y=v)(m:a.eval z=t):#[x,y,z].map a.eval = #[u,v,t]:=by simp [h,k,m]
theorem lk_int{L:List (Nat × Value)}{t:Nat}{k:IntKind}{a b:Int}(h:lk t L=some (.int k a))(e:a=b):lk t L=some (.int k b):=by rw [h,e]
theorem wi64{a:Int}(h1 : -9223372036854775808≤a)(h2:a≤9223372036854775807):IntKind.i64.wrap a=a:=by rw [IntKind.wrap_i64];omega
theorem wu32{a:Int}(h1:0≤a)(h2:a≤4294967295):IntKind.u32.wrap a=a:=by rw [IntKind.wrap_u32];omega
theorem wu64{a:Int}(h1:0≤a)(h2:a≤18446744073709551615):IntKind.u64.wrap a=a:=by rw [IntKind.wrap_u64];omega
def u32(x:Nat):Value:=.int .u32 (x:Int)
def us(l:List Nat):List Value:=l.map u32
theorem us_get{l:List Nat}{i:Nat}(h:i<l.length):(us l)[i]?=some (.int .u32 (l.getD i 0:Nat)):=by
 simp [us,u32,List.getElem?_eq_getElem h]
theorem us_one(l:List Nat):∀u∈us l,u.oneCell'=true:=by
 intro u hu
 obtain ⟨x,_,rfl⟩:=List.mem_map.1 hu
 rfl
@[simp] theorem us_length(l:List Nat):(us l).length=l.length:=by simp [us]
structure UC (w:World) (X:List Nat) (A:Option Addr) (c:Nat) (l:List Nat):Prop where
 cl:Cl w X A (us l)
 len:l.length≤c
 cap:c≤9223372036854775807
def UL(w:World)(X:List Nat)(v:Value)(l:List Nat):Prop:=∃A n c,v=.slice A n c∧n=l.length∧UC w X A c l
theorem UC.ext{w w':World}{X X':List Nat}{A:Option Addr}{c:Nat}{l:List Nat}(h:UC w X A c l)(e:Ext w X w' X'):UC w' X' A c l:=⟨h.cl.ext e,h.len,h.cap⟩
theorem UL.ext{w w':World}{X X':List Nat}{v:Value}{l:List Nat}(h:UL w X v l)(e:Ext w X w' X'):UL w' X' v l:=by
 obtain ⟨A,n,c,rfl,hn,h⟩:=h
 exact ⟨A,n,c,rfl,hn,h.ext e⟩
theorem UL.fin{w:World}{X X':List Nat}{v:Value}{L l:List Nat}(h:UL w X v L)(e:L=l)(hx:∀x∈X',x∈X):UL w X' v l:=by
 subst e
 exact h.ext (Ext.drop hx)
theorem UL.nil_(w:World)(X:List Nat):UL w X (.slice none 0 0) []:=⟨none,0,0,rfl,rfl,⟨Cl.nil _ _ _,Nat.le_refl _,by omega⟩⟩
section
variable {P:Program} {ρ:Operand→Value} {w:World} {d:Option Tmp} {ty:TypeId} {pos:String} {af:Array Edge} {gd:Option (Nat × Bool)}
theorem ex_idx{t e:TypeId}{x y:Operand}{A:Option Addr}{ad:Addr}{n c:Nat}{k:IntKind}{i:Int}{j:Nat}(ht:sliceOf P t=some (e,1))(hx:ρ x=.slice A n c)(hA:A=some ad)(hy:ρ y=.int k i)(hi:i=(j:Nat))(h1:j<n):
 (execOp ρ ⟨d,.indexAddr t x y,ty,pos,af,gd⟩).run P w=.ok (.value (.pointer (some (ad.add j)))) w:=by
 subst hA
 subst hi
 have:=ex_index_addr (w:=w) (d:=d) (ty:=ty) (pos:=pos) (af:=af) (gd:=gd) ht hx hy (by omega) (by omega)
 simpa using this
theorem run_slice_core{t e:TypeId}{s:Nat}(ht:sliceOf P t=some (e,s)){A:Option Addr}{n c:Nat}{lo hi mx:Option Value}{l h m:Nat}
 (hb:(Instr.sliceBounds true n c lo hi mx).run P w=.ok (l,h,m) w):(Instr.sliceAt t (.slice A n c) lo hi mx).run P w=.ok (sliced A l h m s) w:=by
 unfold sliceOf at ht
 split at ht
 ·rename_i e' he
  cases hq:P.info? e' with
  |none=>simp [hq] at ht
  |some j =>
   simp only [hq,Option.map_some,Option.some.injEq,Prod.mk.injEq] at ht
   obtain ⟨rfl,rfl⟩:=ht
   simp [Instr.sliceAt,Instr.slice,run_underlying he,hb,sizeOf,typeInfo,hq,sliced]
 ·cases ht
theorem map_add_zero(A:Option Addr):A.map (·.add 0)=A:=by cases A<;>simp [Addr.add]
theorem ex_slice_h{t e:TypeId}{s:Nat}{x y:Operand}{A:Option Addr}{n c:Nat}{k:IntKind}{i:Int}{j:Nat}(ht:sliceOf P t=some (e,s))(hx:ρ x=.slice A n c)(hy:ρ y=.int k i)(hi:i=(j:Nat))(h1:j≤c):
 (execOp ρ ⟨d,.slice t x none (some y) none,ty,pos,af,gd⟩).run P w=.ok (.value (.slice A j c)) w:=by
 subst hi
 have hb:(Instr.sliceBounds true n c none (some (.int k (j:Int))) none).run P w=.ok (0,j,c) w:=by
  simp [Instr.sliceBounds,run_sliceBound,h1]
 simp [execOp,hx,hy,run_slice_core ht hb,sliced,map_add_zero]
theorem ex_slice_lh{t e:TypeId}{x y z:Operand}{A:Option Addr}{n c:Nat}{k k':IntKind}{i i':Int}{j m:Nat}(ht:sliceOf P t=some (e,1))(hx:ρ x=.slice A n c)(hy:ρ y=.int k i)(hz:ρ z=.int k' i')(hi:i=(j:Nat))(hi':i'=(m:Nat))(h1:j≤m)(h2:m≤c):
 (execOp ρ ⟨d,.slice t x (some y) (some z) none,ty,pos,af,gd⟩).run P w=.ok (.value (.slice (if c=j then A else A.map (·.add j)) (m-j) (c-j))) w:=by
 subst hi hi'
 have hb:(Instr.sliceBounds true n c (some (.int k (j:Int))) (some (.int k' (m:Int))) none).run P w=.ok (j,m,c) w:=by
  simp [Instr.sliceBounds,run_sliceBound,h1,h2]
 simp [execOp,hx,hy,hz,run_slice_core ht hb,sliced]
end
end Go.Sw
namespace Go.Sw
open Go Go.RowKit
def acyc(l:List Oper):Bool:=(List.range l.length).all λi=>match l[i]? with
 |some o=>o.after.toList.all λe=>!(Region.binds .any e) || Nat.blt e.on i
 |none=>true
theorem acyc_of{l:List Oper}(h:acyc l=true){i:Nat}{o:Oper}(ho:l[i]?=some o){e:Edge}(he:e∈o.after)(hb:Region.binds .any e=true):e.on<i:=by
 have hi:i<l.length:=(List.getElem?_eq_some_iff.1 ho).1
 have h1:=List.all_eq_true.1 h i (by simpa using hi)
 simp only [ho] at h1
 have h2:=List.all_eq_true.1 h1 e (by simpa using he)
 simpa [hb,Nat.blt_eq] using h2
theorem count_set:∀(l:List Bool) (i:Nat),l[i]?=some false→(l.set i true).count false+1=l.count false
 |[],i,h=>by simp at h
 |b :: r,0,h=>by
  have:b=false:=by simpa using h
  subst this
  simp
 |b :: r,i+1,h=>by
  have:=count_set r i (by simpa using h)
  simp only [List.set_cons_succ,List.count_cons]
  omega
section
variable {P:Program} {Q:Exit→Act→World→Prop} {l:List Oper}
theorem drawn_inv{id:Nat}{a:Act}{w:World}(hm:P.follows .mixedOrders=true)(hac:acyc l=true)(J:(Nat→Bool)→Act→World→Prop)(h0:J (λ_=>false) a w.drew)
 (hst:∀ls a w i o,J ls a w→l[i]?=some o→ls i=false→(∀e∈o.after,Region.binds .any e=true→ls e.on=true)→wpOp P l.toArray Q i (J (λj=>Nat.beq j i || ls j)) a w)
 (hend:∀ls a w,J ls a w→(∀i,i<l.length→ls i=true)→Q .normal a w):(Code.region id l.toArray true).wp P Q a w:=by
 refine wp_region_any hm ?_
 have key:∀(fuel:Nat) (listed:Array Bool) (a:Act) (w:World),listed.size=l.length→listed.toList.count false≤fuel→J (λi=>listed.getD i false) a w→wpAny P .any l.toArray Q fuel listed a w:=by
  intro fuel
  induction fuel with
  |zero =>
   intro listed a w hs hc hJ
   have hall:∀i,i<l.length→listed.getD i false=true:=by
    intro i hi
    have hlt:i<listed.size:=by omega
    cases hb:listed[i] with
    |true=>simp [Array.getD,hlt,hb]
    |false =>
     have hm:false∈listed.toList:=by rw [← hb];simp
     have:=List.count_pos_iff.2 hm
     omega
   refine ⟨?_,hend _ _ _ hJ hall⟩
   simp only [Region.ready,List.size_toArray]
   refine List.filter_eq_nil_iff.2 λi hi=>?_
   have hil:i<l.length:=by simpa using hi
   have:=hall i hil
   have hlt:i<listed.size:=by omega
   simp only [Array.getD,hlt,dif_pos] at this ⊢
   have h2:listed[i]=true:=this
   simp [h2]
  |succ fuel ih =>
   intro listed a w hs hc hJ
   refine ⟨λhr=>hend _ _ _ hJ ?_,λi hi=>?_⟩
   ·intro i
    induction i using Nat.strongRecOn with
    |_ i ihi =>
     intro hil
     have hlt:i<listed.size:=by omega
     cases hb:listed[i] with
     |true=>simp [Array.getD,hlt,hb]
     |false =>
      exfalso
      have hmem:i∈Region.ready .any l.toArray listed:=by
       simp only [Region.ready,List.size_toArray]
       refine List.mem_filter.2 ⟨by simpa using hil, ?_⟩
       have ho:l[i]?=some l[i]:=List.getElem?_eq_getElem hil
       simp only [Array.getD,hlt,dif_pos,List.getElem?_toArray,ho,Option.map_some,Option.getD_some]
       have e0:listed.getInternal i hlt=false:=hb
       rw [e0]
       simp only [Bool.not_false,Bool.true_and,Array.all_eq_true']
       intro e he
       cases hbd:Region.binds .any e with
       |false=>rfl
       |true =>
        have hlt':=acyc_of hac ho he hbd
        have:=ihi e.on hlt' (by omega)
        simp only [Array.getD] at this
        simpa using this
      rw [hr] at hmem
      cases hmem
   ·simp only [Region.ready,List.size_toArray] at hi
    obtain ⟨hir,hcond⟩:=List.mem_filter.1 hi
    have hil:i<l.length:=by simpa using hir
    have hlt:i<listed.size:=by omega
    have ho:l[i]?=some l[i]:=List.getElem?_eq_getElem hil
    simp only [Bool.and_eq_true,List.getElem?_toArray,ho,Option.map_some,Option.getD_some] at hcond
    have hfalse:listed[i]=false:=by
     have:=hcond.1
     simpa [Array.getD,hlt] using this
    have hpre:∀e∈(l[i]).after,Region.binds .any e=true→listed.getD e.on false=true:=by
     intro e he hb
     have:=Array.all_eq_true'.1 hcond.2 e he
     simpa [hb] using this
    have hJi:=hst _ a w i _ hJ ho (by simp [Array.getD,hlt,hfalse]) hpre
    refine wpOp_mono (λa' w' hJ'=>?_) hJi
    refine ih _ a' w' (by simpa using hs) ?_ ?_
    ·have h1:listed.toList[i]?=some false:=by simp [hlt,hfalse]
     have h2:=count_set listed.toList i h1
     rw [Array.toList_setIfInBounds]
     omega
    ·have e:(λj=>(listed.setIfInBounds i true).getD j false)=λj=>Nat.beq j i || listed.getD j false:=by
      funext j
      by_cases hj:j=i
      ·subst hj;simp [Array.getD,hlt]
      ·rw [beq_no hj]
       simp only [Bool.false_or,Array.getD_eq_getD_getElem?]
       rw [Array.getElem?_setIfInBounds_ne (λe=>hj e.symm)]
     rw [e]
     exact hJ'
 refine key _ _ _ _ (by simp) ?_ ?_
 ·simp
 ·have e:(λi=>(Array.replicate l.toArray.size false).getD i false)=λ_=>false:=by
   funext i
   simp only [Array.getD_eq_getD_getElem?,Array.getElem?_replicate]
   split<;>rfl
  rw [e]
  exact h0
def pre(o:Oper):List Nat:=o.after.toList.filterMap λe=>if Region.binds .any e then some e.on else none
theorem mem_pre{o:Oper}{j:Nat}:j∈pre o↔∃e∈o.after,Region.binds .any e=true∧e.on=j:=by
 simp only [pre,List.mem_filterMap]
 constructor
 ·rintro ⟨e,he,h⟩
  split at h
  ·rename_i hb;exact ⟨e,by simpa using he,hb,by simpa using h⟩
  ·cases h
 ·rintro ⟨e,he,hb,rfl⟩
  exact ⟨e,by simpa using he,by simp [hb]⟩
def OpsOk(f:Nat→Oper→Prop):Nat→List Oper→Prop
 |_,[]=>True
 |i,o :: r=>f i o∧OpsOk f (i+1) r
theorem OpsOk.at_{f:Nat→Oper→Prop}:∀{l:List Oper} {k:Nat},OpsOk f k l→∀{i:Nat} {o:Oper},l[i]?=some o→f (k+i) o
 |[],_,_,i,o,h=>by simp at h
 |_ :: r,k,hk,0,o,h=>by simp at h;subst h;exact hk.1
 |_ :: r,k,hk,i+1,o,h=>by
  have:=OpsOk.at_ hk.2 (i:=i) (o:=o) (by simpa using h)
  rwa [show k+1+i=k+(i+1) by omega] at this
def slotsOk(N:Nat)(l:List Oper)(L0:List (Nat × Value)):Bool :=
 (List.range l.length).all λi=>match (l[i]?).bind (·.dst) with
  |some d=>Nat.blt d N && (lk d L0).isNone && (List.range l.length).all λj=>Nat.beq i j || (match (l[j]?).bind (·.dst) with|some e=>!(Nat.beq d e)|none=>true)
  |none=>true
def Cok(l:List Oper)(ls:Nat→Bool)(a:Act)(C:List (Option Value)):Prop :=
 ∀i o d v,l[i]?=some o→o.dst=some d→C[i]?=some (some v)→ls i=true→a.tmps.getD d undef=v
theorem Frm.put_other{N:Nat}{a:Act}{L:List (Nat × Value)}(h:Frm N a L){d:Nat}(v:Value)(hd:(lk d L).isNone=true):Frm N (a.put (some d) v) L:=by
 refine ⟨by simp [Act.put,h.size],h.defers,λt u hu=>?_⟩
 have hne:d≠t:=by rintro rfl;rw [hu] at hd;cases hd
 have:=h.get t u hu
 simp only [Act.put,Array.getD_eq_getD_getElem?] at this ⊢
 rw [Array.getElem?_setIfInBounds_ne hne]
 exact this
theorem getD_put_other{a:Act}{d t:Nat}(v:Value)(h:d≠t):(a.put (some d) v).tmps.getD t undef=a.tmps.getD t undef:=by
 simp only [Act.put,Array.getD_eq_getD_getElem?]
 rw [Array.getElem?_setIfInBounds_ne h]
theorem getD_put_same{a:Act}{d N:Nat}(v:Value)(hs:a.tmps.size=N)(h:d<N):(a.put (some d) v).tmps.getD d undef=v:=by
 have:d<a.tmps.size:=by omega
 simp [Act.put,this]
structure Before (l:List Oper) (C:List (Option Value)) (acts:List Nat) (done:List Nat) (i:Nat) (o:Oper) (a:Act):Prop where
 val:∀j o' d v,(pre o).elem j=true→l[j]?=some o'→o'.dst=some d→C[j]?=some (some v)→a.tmps.getD d undef=v
 have_:∀j,acts.elem j=true→(pre o).elem j=true→done.elem j=true
 not_:∀j,acts.elem j=true→∀o',l[j]?=some o'→(pre o').elem i=true→done.elem j=false
theorem drawn{id N:Nat}{a:Act}{w:World}{L0:List (Nat × Value)}(C:List (Option Value))(acts:List Nat)(A:Nat→List Nat)(Φ:Nat→Act→World→Prop)(hm:P.follows .mixedOrders=true)(hac:acyc l=true)(hsl:slotsOk N l L0=true)
 (hacts:acts.all (λi=>Nat.blt i l.length)=true) (hF:Frm N a L0) (h0:(acts.all λi=>!((A 0).elem i))=true∧Φ 0 a w.drew)
 (hput:∀s a w i o d v,l[i]?=some o→o.dst=some d→acts.elem i=false→Φ s a w→Φ s (a.put (some d) v) w)
 (hops:OpsOk (λi o =>
  (acts.elem i=false∧∃d v,o.dst=some d∧C[i]?=some (some v)∧∀s a w,Φ s a w→Frm N a L0→Before l C acts (A s) i o a→∀K:Act→World→Prop,K (a.put (some d) v) w→wpOp P l.toArray Q i K a w) ∨
  (acts.elem i=true∧∀s a w,Φ s a w→Frm N a L0→Before l C acts (A s) i o a→(A s).elem i=false →
   wpOp P l.toArray Q i (λa' w'=>∃s',(acts.all λj=>(A s').elem j == (Nat.beq j i || (A s).elem j))=true∧Φ s' a' w'∧∃v,a'=a.put o.dst v∧∀u,C[i]?=some (some u)→v=u) a w)) 0 l)
 (hend:∀s a w,(acts.all λi=>(A s).elem i)=true→Φ s a w→Frm N a L0→(∀(i:Nat) (o:Oper) (d:Nat) (v:Value),l[i]?=some o→o.dst=some d→C[i]?=some (some v)→a.tmps.getD d undef=v)→Q .normal a w):(Code.region id l.toArray true).wp P Q a w:=by
 have hslot:∀(i:Nat) (o:Oper) (d:Nat),l[i]?=some o→o.dst=some d→d<N∧(lk d L0).isNone=true∧∀(j:Nat) (o':Oper) (e:Nat),l[j]?=some o'→o'.dst=some e→j≠i→d≠e:=by
  intro i o d ho hd
  have hi:i<l.length:=(List.getElem?_eq_some_iff.1 ho).1
  have h1:=List.all_eq_true.1 hsl i (by simpa using hi)
  simp only [ho,Option.bind_some,hd,Bool.and_eq_true] at h1
  refine ⟨by simpa [Nat.blt_eq] using h1.1.1,h1.1.2,λj o' e ho' hd' hne=>?_⟩
  have hj:j<l.length:=(List.getElem?_eq_some_iff.1 ho').1
  have:=List.all_eq_true.1 h1.2 j (by simpa using hj)
  rw [beq_no (λe=>hne e.symm)] at this
  simp only [ho',Option.bind_some,hd',Bool.false_or] at this
  intro e
  subst e
  simp at this
 refine drawn_inv hm hac (λls a w=>Frm N a L0∧Cok l ls a C∧(∀(j:Nat) (o:Oper),l[j]?=some o→ls j=true→∀k∈pre o,ls k=true)∧∃s,(∀i∈acts,ls i=(A s).elem i)∧Φ s a w) ?_ ?_ ?_
 ·obtain ⟨hs,hΦ⟩:=h0
  exact ⟨hF,λ_ _ _ _ _ _ _ hq=>absurd hq (by simp),λ_ _ _ hq=>absurd hq (by simp),0,λi hi=>by have:=List.all_eq_true.1 hs i hi;simpa using this,hΦ⟩
 ·rintro ls a w i o ⟨hF,hC,hcl,s,hs,hΦ⟩ ho hi hpre
  have hpre':∀k∈pre o,ls k=true:=λk hk=>by
   obtain ⟨e,he,hb,rfl⟩:=mem_pre.1 hk
   exact hpre e he hb
  have hbef:Before l C acts (A s) i o a:=by
   refine ⟨λj o' d v hp ho' hd' hc=>hC j o' d v ho' hd' hc (hpre' j (by simpa using hp)),λj hj hp=>?_,λj hj o' ho' hp=>?_⟩
   ·rw [← hs j (by simpa using hj)];exact hpre' j (by simpa using hp)
   ·have hp:i∈pre o':=by simpa using hp
    rw [← hs j (by simpa using hj)]
    cases hl:ls j with
    |false=>rfl
    |true=>have:=hcl j o' ho' hl i hp;rw [hi] at this;cases this
  have hcl':∀(j:Nat) (o':Oper),l[j]?=some o'→(Nat.beq j i || ls j)=true→∀k∈pre o',(Nat.beq k i || ls k)=true:=by
   intro j o' ho' hl k hk
   by_cases hji:j=i
   ·subst hji
    rw [ho] at ho'
    cases ho'
    simp [hpre' k hk]
   ·rw [beq_no hji] at hl
    simp [hcl j o' ho' (by simpa using hl) k hk]
  have hCok:∀v,(∀u,C[i]?=some (some u)→v=u)→Cok l (λj=>Nat.beq j i || ls j) (a.put o.dst v) C:=by
   intro v hv j o' d u ho' hd' hc hl
   by_cases hji:j=i
   ·subst hji
    rw [ho] at ho'
    cases ho'
    rw [hd',getD_put_same v hF.size (hslot _ _ _ ho hd').1]
    exact hv u hc
   ·have hold:=hC j o' d u ho' hd' hc (by simpa [beq_no hji] using hl)
    cases hd:o.dst with
    |none=>exact hold
    |some e =>
     rw [getD_put_other v ((hslot i o e ho hd).2.2 j o' d ho' hd' hji)]
     exact hold
  have hFput:∀v,Frm N (a.put o.dst v) L0:=by
   intro v
   cases hd:o.dst with
   |none=>exact hF
   |some e=>exact hF.put_other v (hslot i o e ho hd).2.1
  have hop:=hops.at_ ho
  simp only [Nat.zero_add] at hop
  rcases hop with ⟨hna,d,v,hd,hmem,hrun⟩|⟨hact,hrun⟩
  ·refine hrun s a w hΦ hF hbef _ ?_
   have h1:=hCok v (λu hu=>by rw [hmem] at hu;cases hu;rfl)
   have h2:=hFput v
   rw [hd] at h1 h2
   refine ⟨h2,h1,hcl',s,λj hj=>?_,hput s a w i o d v ho hd hna hΦ⟩
   have hji:j≠i:=λe=>by subst e;simp at hna;exact hna hj
   show (Nat.beq j i || ls j)=_
   rw [beq_no hji]
   exact hs j hj
  ·have h:=hrun s a w hΦ hF hbef (by rw [← hs i (by simpa using hact)];exact hi)
   refine wpOp_mono (λa' w' hk=>?_) h
   obtain ⟨s',hs',hΦ',v,rfl,hv⟩:=hk
   refine ⟨hFput v,hCok v hv,hcl',s',λj hj=>?_,hΦ'⟩
   show (Nat.beq j i || ls j)=_
   rw [hs j hj]
   have:=List.all_eq_true.1 hs' j hj
   exact (beq_iff_eq.1 this).symm
 ·rintro ls a w ⟨hF,hC,hcl,s,hs,hΦ⟩ hall
  refine hend s a w (List.all_eq_true.2 λi hi=>?_) hΦ hF (λi o d v ho hd hc=>hC i o d v ho hd hc (hall i (List.getElem?_eq_some_iff.1 ho).1))
  rw [← hs i hi]
  exact hall i (by simpa [Nat.blt_eq] using List.all_eq_true.1 hacts i hi)
theorem wop{i:Nat}{o:Oper}{a:Act}{w:World}{K:Act→World→Prop}(ho:l[i]?=some o)(hg:o.guard=none)(h:o.wp P a w K Q):wpOp P l.toArray Q i K a w:=by
 unfold wpOp
 simp only [List.getElem?_toArray,ho]
 rw [if_pos (by simp [Region.wanted,hg])]
 exact .inl h
theorem wopg{i j:Nat}{b:Bool}{o:Oper}{a:Act}{w:World}{K:Act→World→Prop}{N:Nat}{L:List (Nat × Value)}(hF:Frm N a L)(ho:l[i]?=some o)(hg:o.guard=some (j,b))(hs:said l.toArray L j=some b)(h:o.wp P a w K Q):wpOp P l.toArray Q i K a w:=by
 unfold wpOp
 simp only [List.getElem?_toArray,ho]
 rw [if_pos (by simp [Region.wanted,hg,yielded_of hF hs])]
 exact .inl h
theorem fl_val{i d:Nat}{o:Oper}{a:Act}{w:World}{K:Act→World→Prop}{v:Value}(ho:l[i]?=some o)(hg:o.guard=none)(hd:o.dst=some d)(hr:(execOp a.eval o).run P w=.ok (.value v) w)(hK:K (a.put (some d) v) w):wpOp P l.toArray Q i K a w:=by
 refine wop ho hg ?_
 unfold Oper.wp
 rw [hr]
 simp only [Oper.upon,hd]
 exact hK
theorem fl_valg{i j d:Nat}{b:Bool}{o:Oper}{a:Act}{w:World}{K:Act→World→Prop}{v:Value}{N:Nat}{L:List (Nat × Value)}(hF:Frm N a L)(ho:l[i]?=some o)(hg:o.guard=some (j,b))(hs:said l.toArray L j=some b)(hd:o.dst=some d)(hr:(execOp a.eval o).run P w=.ok (.value v) w)(hK:K (a.put (some d) v) w):wpOp P l.toArray Q i K a w:=by
 refine wopg hF ho hg hs ?_
 unfold Oper.wp
 rw [hr]
 simp only [Oper.upon,hd]
 exact hK
theorem fl_skip{i j d:Nat}{b c:Bool}{o:Oper}{a:Act}{w:World}{K:Act→World→Prop}{N:Nat}{L:List (Nat × Value)}(hF:Frm N a L)(ho:l[i]?=some o)(hg:o.guard=some (j,b))(hs:said l.toArray L j=some c)(hne:(c == b)=false)(hd:o.dst=some d)(hK:K (a.put (some d) undef) w):wpOp P l.toArray Q i K a w:=by
 unfold wpOp
 simp only [List.getElem?_toArray,ho]
 have:Region.wanted o (yielded l.toArray a.tmps)=false:=by
  simp only [Region.wanted,hg,yielded_of hF hs]
  cases c<;>cases b<;>first|rfl|cases hne
 rw [this]
 simp only [Bool.false_eq_true,if_false,hd]
 exact hK
def freeOf(l:List Oper)(acts:List Nat)(L:List (Nat × Value)):Bool:=(List.range l.length).all λi=>acts.elem i || (match (l[i]?).bind (·.dst) with|some d=>(lk d L).isNone|none=>true)
theorem freeOf_at{acts:List Nat}{L:List (Nat × Value)}(h:freeOf l acts L=true){i:Nat}{o:Oper}{d:Nat}(ho:l[i]?=some o)(hd:o.dst=some d)(hna:acts.elem i=false):(lk d L).isNone=true:=by
 have hi:i<l.length:=(List.getElem?_eq_some_iff.1 ho).1
 have:=List.all_eq_true.1 h i (by simpa using hi)
 rw [hna] at this
 simpa [ho,hd] using this
end
theorem St.perm{w0 w:World}{L L':List Bx}(h:St w0 w L)(hp:L.Perm L'):St w0 w L' :=
 ⟨h.below,λb hb=>h.box b (hp.mem_iff.2 hb),(hp.pairwise_iff (fun {_ _} h e=>h e.symm)).1 h.nd⟩
end Go.Sw
namespace Go.Sw
open Go Go.RowKit
theorem us_arr{L:List Nat}{i:Nat}(h:i<L.length):((us L).toArray)[i]?=some (.int .u32 ((L.getD i 0:Nat):Int)):=by
 rw [List.getElem?_toArray];exact us_get h
theorem us_arr2{L:List Nat}{r:List Value}{i:Nat}(h:i<L.length):((us L++r).toArray)[i]?=some (.int .u32 ((L.getD i 0:Nat):Int)):=by
 rw [List.getElem?_toArray,List.getElem?_append_left (by simpa using h)];exact us_get h
theorem us_append(a b:List Nat):us (a++b)=us a++us b:=by simp [us]
theorem us_set(L:List Nat)(i x:Nat):us (L.set i x)=(us L).set i (u32 x):=by simp [us,List.map_set]
theorem splice_us{L:List Nat}{i x:Nat}(h:i<L.length):splice (us L).toArray i #[.int .u32 (x:Int)]=(us (L.set i x)).toArray:=by
 have hi:i<(us L).length:=by simpa using h
 unfold splice
 rw [us_set,List.set_eq_take_append_cons_drop,if_pos hi]
 simp [u32]
theorem splice_us2{L:List Nat}{r:List Value}{i x:Nat}(h:i<L.length):splice (us L++r).toArray i #[.int .u32 (x:Int)]=(us (L.set i x)++r).toArray:=by
 have hi:i<(us L).length:=by simpa using h
 unfold splice
 rw [us_set,List.set_eq_take_append_cons_drop,if_pos hi]
 simp only [List.size_toArray,List.length_cons,List.length_nil,Nat.zero_add]
 rw [List.take_append_of_le_length (Nat.le_of_lt hi),List.drop_append_of_le_length (by omega)]
 simp [u32]
def elemOf(P:Program)(e:TypeId):Option (Array Value × Nat × Nat):=(P.info? e).bind λi=>i.zero.map λz=>(z.cells,i.size,i.bytes)
theorem made_us(n:Nat):madeCells #[.int .u32 0] n=(us (List.replicate n 0)).toArray:=by
 apply Array.ext'
 simp [madeCells,us,u32]
 apply List.ext_getElem?
 intro j
 by_cases hj:j<n
 ·simp [hj,Nat.mod_one]
 ·simp [hj]
section
set_option linter.unusedVariables false
variable {P:Program} {Q:Exit→Act→World→Prop} {a:Act} {w:World} {K:Act→World→Prop} {N:Nat} {L:List (Nat × Value)} {w0:World} {S:List Bx} {X:List Nat}
variable {ty:TypeId} {pos:String} {af:Array Edge} {gd:Option (Nat × Bool)}
theorem ex_idxo{ρ:Operand→Value}{d:Option Tmp}{t e:TypeId}{x y:Operand}{g n c:Nat}{k:IntKind}{i:Int}{j:Nat}(ht:sliceOf P t=some (e,1))(hx:ρ x=.slice (some ⟨g,0,none⟩) n c)(hy:ρ y=.int k i)(hi:i=(j:Nat))(h1:j<n):
 (execOp ρ ⟨d,.indexAddr t x y,ty,pos,af,gd⟩).run P w=.ok (.value (.pointer (some ⟨g,j,none⟩))) w:=by
 have:=ex_idx (w:=w) (d:=d) (ty:=ty) (pos:=pos) (af:=af) (gd:=gd) (j:=j) ht hx rfl hy hi h1
 rwa [Addr.add_lit,Nat.zero_add] at this
theorem op_make{d:Nat}{t e:TypeId}{z:Array Value}{s b:Nat}{x y:Operand}{kl kc:IntKind}{l c:Int}{nl nc:Nat}{cs:Array Value}(hF:Frm N a L)(hS:St w0 w S)(hlt:Nat.blt d N=true)(ht:sliceOf P t=some (e,s))(he:Sw.elemOf P e=some (z,s,b))
 (hx:ev L x=some (.int kl l)) (hy:ev L y=some (.int kc c)) (hl:l=(nl:Nat)) (hc:c=(nc:Nat)) (hlc:nl≤nc) (hb:b*nc≤281474976710656) (h63:nc≤9223372036854775807) (hcs:madeCells z (nc*s)=cs)
 (k:∀g w',w.heap.size≤g→St w0 w' ((g,e,cs) :: S)→Ext w X w' (g :: X)→Frm N (a.put (some d) (.slice (some ⟨g,0,none⟩) nl nc)) ((d,.slice (some ⟨g,0,none⟩) nl nc) :: L)→K (a.put (some d) (.slice (some ⟨g,0,none⟩) nl nc)) w') :
 Oper.wp P ⟨some d,.makeSlice t x y,ty,pos,af,gd⟩ a w K Q:=by
 subst hl hc hcs
 unfold sliceOf at ht
 split at ht
 ·rename_i e' hu
  cases hq:P.info? e' with
  |none=>simp [hq] at ht
  |some i =>
   simp only [hq,Option.map_some,Option.some.injEq,Prod.mk.injEq] at ht
   obtain ⟨rfl,rfl⟩:=ht
   unfold Sw.elemOf at he
   cases hz:i.zero with
   |none=>simp [hq,hz] at he
   |some zv =>
    simp only [hq,hz,Option.bind_some,Option.map_some,Option.some.injEq,Prod.mk.injEq] at he
    obtain ⟨rfl,_,rfl⟩:=he
    have hb1:((i.bytes*nc:Nat):Int)≤281474976710656:=by omega
    have hb2:(i.bytes:Int)*(nc:Int)≤281474976710656:=by rwa [Int.natCast_mul] at hb1
    have hr:=run_make (P:=P) w t e' i zv hu hq hz kl kc (nl:Int) (nc:Int) (by omega) (by omega) hb2 (by omega)
    simp only [Int.toNat_natCast] at hr
    have hr':(execOp a.eval ⟨some d,.makeSlice t x y,ty,pos,af,gd⟩).run P w=.ok (.value (.slice (some ⟨w.heap.size,0,none⟩) nl nc)) (w.alloc (.cells (madeCells zv.cells (nc*i.size)) e')):=by
     simp only [execOp,hF.ev hx,hF.ev hy,Sem.run_bind,hr,Result.andThen_ok,Sem.run_pure]
    exact op_val hF rfl hlt hr' λh=>k _ _ (Nat.le_refl _) (hS.alloc _ _) (Ext.alloc _ _ _) h
 ·cases ht
def OwV(e:TypeId)(So:List Bx)(v:Value)(l:List Value):Prop :=
 (So=[]∧v=.slice none 0 0∧l=[])∨∃g c r,So=[(g,e,(l++r).toArray)]∧v=.slice (some ⟨g,0,none⟩) l.length c∧c=l.length+r.length∧c≤maxLen
theorem OwV.nil(e:TypeId):OwV e [] (.slice none 0 0) []:=.inl ⟨rfl,rfl,rfl⟩
theorem OwV.block(e:TypeId)(g c:Nat)(l r:List Value)(hc:c=l.length+r.length)(hm:c≤maxLen):OwV e [(g,e,(l++r).toArray)] (.slice (some ⟨g,0,none⟩) l.length c) l:=.inr ⟨g,c,r,rfl,rfl,hc,hm⟩
theorem OwV.cl{e:TypeId}{So:List Bx}{v:Value}{l:List Value}(h:OwV e So v l){F:List Bx}{X':List Nat}(hS:St w0 w (F++So))(hX:∀m∈X',m<w0.heap.size):∃A n c,v=.slice A n c∧n=l.length∧Cl w X' A l∧n≤c∧c≤9223372036854775807:=by
 rcases h with ⟨rfl,rfl,rfl⟩|⟨g,c,r,rfl,rfl,hc,hm⟩
 ·exact ⟨none,0,0,rfl,rfl,Cl.nil _ _ _,Nat.le_refl _,by omega⟩
 ·have hb:=hS.box (g,e,(l++r).toArray) (by simp)
  have hcl:=Cl.of_block (X:=X') hb.1 (λhg=>by have:=hX g hg;have:=hb.2;simp only at this;omega) l.length
  simp only [List.take_left'] at hcl
  exact ⟨_,_,c,rfl,rfl,by simpa using hcl,by omega,by simpa [maxLen] using hm⟩
theorem st_tail{F So So':List Bx}{w':World}(hS:St w0 w (F++So))(hg:∀k,k<w.heap.size→k ∉ bl So→w'.heap[k]?=w.heap[k]?)(hos:w'.os=w.os)(htp:w'.tape=w.tape)(hout:w'.output=w.output)(hsz:w.heap.size≤w'.heap.size)
 (hn:∀b∈So',w'.heap[b.1]?=some (.cells b.2.2 b.2.1 (0,0))∧(b.1∈bl So∨w.heap.size≤b.1)) (hp:So'.Pairwise λa b=>a.1≠b.1):St w0 w' (F++So'):=by
 have hsplit:=List.pairwise_append.1 hS.nd
 refine ⟨?_,λb hb=>?_, ?_⟩
 ·refine hS.below.trans ⟨hos,htp,hout,hsz,λk hk=>hg k (Nat.lt_of_lt_of_le hk hS.below.size) (λhm=>?_)⟩
  obtain ⟨b,hb,rfl⟩:=List.mem_map.1 hm
  have:=(hS.box b (by simp [hb])).2
  omega
 ·rcases List.mem_append.1 hb with hb|hb
  ·have hbb:=hS.box b (by simp [hb])
   refine ⟨(hg _ (lt_of_heap hbb.1) (λhm=>?_)).trans hbb.1,hbb.2⟩
   obtain ⟨b',hb',e⟩:=List.mem_map.1 hm
   exact hsplit.2.2 b hb b' hb' e.symm
  ·refine ⟨(hn b hb).1, ?_⟩
   rcases (hn b hb).2 with h|h
   ·obtain ⟨b',hb',e⟩:=List.mem_map.1 h
    rw [← e];exact (hS.box b' (by simp [hb'])).2
   ·exact Nat.le_trans hS.below.size h
 ·refine List.pairwise_append.2 ⟨hsplit.1,hp,λx hx y hy=>?_⟩
  rcases (hn y hy).2 with h|h
  ·obtain ⟨b',hb',e⟩:=List.mem_map.1 h
   rw [← e];exact hsplit.2.2 x hx b' hb'
  ·have:=hS.lt (b:=x) (by simp [hx])
   omega
theorem op_append{d:Nat}{t e:TypeId}{z:Array Value}{b:Nat}{x y:Operand}{v:Value}{l m:List Value}{A:Option Addr}{n c:Nat}{F So:List Bx}{Y:List Nat}(hF:Frm N a L)(hS:St w0 w (F++So))(hlt:Nat.blt d N=true)(ht:sliceOf P t=some (e,1))(he:Sw.elemOf P e=some (z,1,b))(hz1:z.size=1)
 (hx:ev L x=some v) (hy:ev L y=some (.slice A n c)) (hn:n=m.length) (hO:OwV e So v l) (hm:Cl w Y A m) (h1:∀u∈m,u.oneCell'=true) (hlen:(l.length+m.length)*b≤140737488355328) (h63:l.length+m.length≤9223372036854775807)
 (k:∀v' So' w',OwV e So' v' (l++m)→St w0 w' (F++So')→Ext w (bl F++bl So++X) w' (bl F++bl So'++X)→(∀k,k<w.heap.size→k ∉ bl So→w'.heap[k]?=w.heap[k]?)→Frm N (a.put (some d) v') ((d,v') :: L)→K (a.put (some d) v') w') :
 Oper.wp P ⟨some d,.call ⟨.builtin .append,#[x,y],#[t,t]⟩,ty,pos,af,gd⟩ a w K Q:=by
 subst hn
 unfold sliceOf at ht
 split at ht
 ·rename_i e' hu
  cases hq:P.info? e' with
  |none=>simp [hq] at ht
  |some i =>
   simp only [hq,Option.map_some,Option.some.injEq,Prod.mk.injEq] at ht
   obtain ⟨rfl,hi1⟩:=ht
   unfold Sw.elemOf at he
   cases hz:i.zero with
   |none=>simp [hq,hz] at he
   |some zv =>
    simp only [hq,hz,Option.bind_some,Option.map_some,Option.some.injEq,Prod.mk.injEq] at he
    obtain ⟨rfl,_,rfl⟩:=he
    have hown:w.ownsRow w0.heap.size e' 1 v l.length l:=by
     rcases hO with ⟨rfl,rfl,rfl⟩|⟨g,c',r,rfl,rfl,hc,hmx⟩
     ·exact World.ownsRow_nil _ _ _ _
     ·have hb:=hS.box (g,e',(l++r).toArray) (by simp)
      exact ⟨by simp,.inr ⟨g,c',_,rfl,hb.2,hb.1,by omega,hmx,by simp [hc],by simp⟩⟩
    have hblk:v.ownBlock=none∧So=[]∨∃g,v.ownBlock=some g∧bl So=[g]:=by
     rcases hO with ⟨rfl,rfl,rfl⟩|⟨g,c',r,rfl,rfl,hc,hmx⟩
     ·exact .inl ⟨rfl,rfl⟩
     ·exact .inr ⟨g,rfl,rfl⟩
    have hfin:∀v' w',(Builtin.append_ #[t,t] ty #[v,.slice A m.length c]).run P w=.ok v' w'→w'.ownsRow w0.heap.size e' 1 v' (l.length+m.length) (l++m)→w.grownBy w' v.ownBlock→(v'.ownBlock=v.ownBlock∨v'.ownBlock=some w.heap.size) →
     Oper.wp P ⟨some d,.call ⟨.builtin .append,#[x,y],#[t,t]⟩,ty,pos,af,gd⟩ a w K Q:=by
     intro v' w' hr hown' hgr hat
     have hr':(execOp a.eval ⟨some d,.call ⟨.builtin .append,#[x,y],#[t,t]⟩,ty,pos,af,gd⟩).run P w=.ok (.value v') w':=by
      simp [execOp,resolve,invoke,builtin,hF.ev hx,hF.ev hy,hr]
     have hunch:∀k,k<w.heap.size→k ∉ bl So→w'.heap[k]?=w.heap[k]?:=by
      intro k hk hkn
      refine hgr.block k hk (λe=>hkn ?_)
      rcases hblk with ⟨h0,_⟩|⟨g,h0,h1⟩
      ·rw [h0] at e;cases e
      ·rw [h0] at e;cases e;rw [h1];simp
     have hstate:∃So',OwV e' So' v' (l++m)∧(∀b∈So',w'.heap[b.1]?=some (.cells b.2.2 b.2.1 (0,0))∧(b.1∈bl So∨w.heap.size≤b.1))∧So'.Pairwise (λa b=>a.1≠b.1):=by
      rcases hown'.2 with ⟨rfl,h0⟩|⟨g,c',cur,rfl,hb,hg,hle,hmx,hcs,htk⟩
      ·have:l++m=[]:=List.eq_nil_of_length_eq_zero (by simp at h0 ⊢;omega)
       exact ⟨[],.inl ⟨rfl,rfl,this⟩,λ_ h=>(by cases h),.nil⟩
      ·have hsplit:cur.toList=(l++m)++cur.toList.drop (l.length+m.length):=by
        rw [← htk,Nat.mul_one,List.take_append_drop]
       refine ⟨[(g,e',cur)],.inr ⟨g,c',cur.toList.drop (l.length+m.length), ?_,by simp, ?_,hmx⟩, ?_,by simp⟩
       ·rw [← hsplit]
       ·simp at hcs ⊢;omega
       ·intro b hb
        simp only [List.mem_singleton] at hb
        subst hb
        refine ⟨hg, ?_⟩
        rcases hat with h|h
        ·rcases hblk with ⟨h0,_⟩|⟨g',h0,h1⟩
         ·rw [h0] at h;cases h
         ·rw [h0] at h;cases h;left;rw [h1];simp
        ·cases h;right;exact Nat.le_refl _
     obtain ⟨So',hO',hb',hp'⟩:=hstate
     have hS':=st_tail (So':=So') hS hunch hgr.os hgr.tape hgr.output hgr.size hb' hp'
     refine op_val hF rfl hlt hr' λh=>k v' So' w' hO' hS' ⟨hgr.size,λk hk hkn _=>?_⟩ hunch h
     simp only [List.mem_append,not_or] at hkn
     refine ⟨hunch k hk hkn.1.2, ?_⟩
     simp only [List.mem_append,not_or]
     refine ⟨⟨hkn.1.1,λhm=>?_⟩,hkn.2⟩
     obtain ⟨b,hb,rfl⟩:=List.mem_map.1 hm
     rcases (hb' b hb).2 with h|h
     ·exact hkn.1.2 h
     ·omega
    rcases A with _|ad
    ·have hmn:m=[]:=by
      cases m with
      |nil=>rfl
      |cons u r=>obtain ⟨ad,h,_⟩:=hm (by simp);cases h
     subst hmn
     refine hfin v w ?_ (by simpa using hown) ⟨rfl,rfl,rfl,Nat.le_refl _,λ_ _ _=>rfl⟩ (.inl rfl)
     rcases hown.2 with ⟨rfl,h0⟩|⟨g,c',cur,rfl,_,_,hnc,_⟩
     ·simp [Builtin.append_,run_underlying hu,sizeOf,typeInfo,hq,Builtin.lenOf,Builtin.firstCells]
     ·simp [Builtin.append_,run_underlying hu,sizeOf,typeInfo,hq,Builtin.lenOf,Builtin.firstCells,hnc,storeCells]
    ·have hcells:∀j u,m[j]?=some u→w.cell? (ad.add j)=some u:=by
      intro j u hu'
      obtain ⟨ad',h,_,_,hc⟩:=hm (by intro e;subst e;simp at hu')
      cases h
      exact hc j u hu'
     obtain ⟨v',w',hr,h2,h3,_,h5⟩:=run_append_own_at (P:=P) w w0.heap.size t ty e' i zv 1 i.bytes hu hq hz hi1 rfl hz1 (by decide) v l.length l hown ad m.length c m (by simp) hcells h1 (by simpa [maxLen] using h63) hlen hS.below.size
     exact hfin v' w' hr h2 h3 h5
 ·cases ht
theorem Cl.of_new{w:World}{X:List Nat}(hX:∀m∈X,m<w.heap.size)(cs:Array Value)(t:TypeId):Cl (w.alloc (.cells cs t)) X (some ⟨w.heap.size,0,none⟩) cs.toList:=by
 have:=Cl.of_block (heap_alloc_new w (.cells cs t)) (X:=X) (λh=>by have:=hX _ h;omega) cs.size
 rwa [List.take_of_length_le (by simp)] at this
theorem run_lit{t e:TypeId}{s n:Nat}{z cs:Array Value}{b:Nat}{parts:Array (Nat × Value)}(ht:sliceOf P t=some (e,s))(he:Sw.elemOf P e=some (z,s,b))(hn:n*s≤16777216)(h0:n*s≠0)
 (hfill:Instr.fill (λi=>some (i*s,s)) (madeCells z (n*s)) parts.toList=some cs) :
 (Instr.buildSlice t n parts).run P w=.ok (.slice (some ⟨w.heap.size,0,none⟩) n n) (w.alloc (.cells cs e)):=by
 unfold sliceOf at ht
 split at ht
 ·rename_i e' hu
  cases hq:P.info? e' with
  |none=>simp [hq] at ht
  |some i =>
   simp only [hq,Option.map_some,Option.some.injEq,Prod.mk.injEq] at ht
   obtain ⟨rfl,rfl⟩:=ht
   unfold Sw.elemOf at he
   cases hz:i.zero with
   |none=>simp [hq,hz] at he
   |some zv =>
    simp only [hq,hz,Option.bind_some,Option.map_some,Option.some.injEq,Prod.mk.injEq] at he
    obtain ⟨rfl,_,rfl⟩:=he
    have hn':¬ (n*i.size > 2 ^ 24):=by omega
    have hfill':Instr.fill (λj=>some (j*i.size,i.size)) ((Array.range (n*i.size)).map (zv.cells[· % zv.cells.size]!)) parts.toList=some cs:=hfill
    simp only [Instr.buildSlice,Sem.run_bind,run_underlying hu,Result.andThen_ok,sizeOf,typeInfo]
    simp [hq,hz,zeroValue,typeInfo,h0,hfill',newRow]
    exact hn
 ·cases ht
theorem op_lit{d:Nat}{t e:TypeId}{s n b:Nat}{z cs:Array Value}{parts:Array (Nat × Operand)}{vs:Array (Nat × Value)}(hF:Frm N a L)(hS:St w0 w S)(hX:∀m∈X,m<w.heap.size)(hlt:Nat.blt d N=true)(ht:sliceOf P t=some (e,s))(he:Sw.elemOf P e=some (z,s,b))(hn:Nat.ble (n*s) 16777216=true)(h0:Nat.beq (n*s) 0=false)
 (hv:parts.map (λp=>(p.1,a.eval p.2))=vs) (hfill:Instr.fill (λi=>some (i*s,s)) (madeCells z (n*s)) vs.toList=some cs)
 (k:∀g w',w.heap.size≤g→St w0 w' S→Ext w X w' X→Cl w' X (some ⟨g,0,none⟩) cs.toList→Frm N (a.put (some d) (.slice (some ⟨g,0,none⟩) n n)) ((d,.slice (some ⟨g,0,none⟩) n n) :: L)→K (a.put (some d) (.slice (some ⟨g,0,none⟩) n n)) w') :
 Oper.wp P ⟨some d,.buildSlice t n parts,ty,pos,af,gd⟩ a w K Q:=by
 have hr:=run_lit (w:=w) ht he (by simpa [Nat.ble_eq] using hn) (λe=>by simp [e] at h0) hfill
 have hr':(execOp a.eval ⟨some d,.buildSlice t n parts,ty,pos,af,gd⟩).run P w=.ok (.value (.slice (some ⟨w.heap.size,0,none⟩) n n)) (w.alloc (.cells cs e)):=by
  have hv':(parts.map λx=>match x with|(i,x)=>(i,a.eval x))=vs:=by rw [← hv]
  simp only [execOp,hv',Sem.run_bind,hr,Result.andThen_ok,Sem.run_pure]
 exact op_val hF rfl hlt hr' λh=>k _ _ (Nat.le_refl _) (hS.alloc_ _) (Ext.alloc_ _ _ _) (Cl.of_new hX cs e) h
end
theorem lits1{a:Act}{x:Operand}{u:Value}(h:a.eval x=u):(#[(0,x)]:Array (Nat × Operand)).map (λp=>(p.1,a.eval p.2)) = #[(0,u)]:=by simp [h]
theorem fill_u1{x:Nat}:Instr.fill (λi=>some (i*1,1)) (madeCells #[.int .u32 0] (1*1)) [(0,.int .u32 (x:Int))]=some (us [x]).toArray:=by rw [made_us];simp [Instr.fill,us,u32,Value.cells]
theorem UC.of_box{w:World}{X:List Nat}{g:Nat}{t:TypeId}{L:List Nat}(hg:w.heap[g]?=some (.cells (us L).toArray t (0,0)))(hx:g ∉ X)(hl:L.length≤9223372036854775807):UC w X (some ⟨g,0,none⟩) L.length L :=
 ⟨by have:=Cl.of_block hg hx L.length;simpa [List.take_of_length_le] using this,Nat.le_refl _,hl⟩
theorem UC.of_ow{w0 w:World}{e:TypeId}{So F:List Bx}{v:Value}{l:List Nat}{X:List Nat}(h:OwV e So v (us l))(hS:St w0 w (F++So))(hX:∀m∈X,m<w0.heap.size):UL w X v l:=by
 obtain ⟨A,n,c,rfl,rfl,hcl,hn,hc⟩:=h.cl hS hX
 exact ⟨A,_,c,rfl,by simp,hcl,by simpa using hn,hc⟩
theorem UC.one{w:World}{X:List Nat}{A:Option Addr}{l:List Nat}(h:Cl w X A (us l))(hl:l.length≤9223372036854775807):UC w X A l.length l:=⟨h,Nat.le_refl _,hl⟩
end Go.Sw
namespace Go.Sw
def trimz:List Nat→List Nat
 |[]=>[]
 |x :: r=>match trimz r with
  |[]=>if x=0 then [] else [x]
  |y :: s=>x :: y :: s
theorem trimz_zeros:∀(l:List Nat),(∀j,l.getD j 0=0)→trimz l=[]
 |[],_=>rfl
 |x :: r,h=>by
  have h0:x=0:=h 0
  have hr:=trimz_zeros r (λj=>h (j+1))
  simp [trimz,hr,h0]
theorem getD_succ(x:Nat)(r:List Nat)(k:Nat):(x :: r).getD (k+1) 0=r.getD k 0:=by simp [List.getD]
theorem trimz_take:∀(l:List Nat) (k:Nat),k≤l.length→(∀j,k≤j→l.getD j 0=0)→(k=0∨l.getD (k-1) 0≠0)→l.take k=trimz l
 |l,0,_,hz,_=>by simp [trimz_zeros l (λj=>hz j (Nat.zero_le _))]
 |[],k+1,hk,_,_=>by simp at hk
 |x :: r,k+1,hk,hz,h=>by
  have hr:=trimz_take r k (by simpa using hk) (λj hj=>hz (j+1) (by omega)) (by
   rcases Nat.eq_zero_or_pos k with h0|h0
   ·exact .inl h0
   ·refine .inr ?_
    have h':=h.resolve_left (Nat.succ_ne_zero k)
    rw [show k+1-1=(k-1)+1 by omega,getD_succ] at h'
    exact h')
  rw [List.take_succ_cons,hr]
  simp only [trimz]
  cases ht:trimz r with
  |nil =>
   have hk0:k=0:=by
    rcases Nat.eq_zero_or_pos k with h0|h0
    ·exact h0
    ·have h1:min k r.length=0:=by rw [← List.length_take,hr,ht];rfl
     have h2:k≤r.length:=by simpa using hk
     omega
   subst hk0
   have hx:x≠0:=by have:=h.resolve_left (Nat.succ_ne_zero 0);simpa using this
   simp [hx]
  |cons y s=>rfl
theorem zero_step{l:List Nat}{k:Nat}(h:∀j,k≤j→l.getD j 0=0)(hk:l.getD (k-1) 0=0):∀j,k-1≤j→l.getD j 0=0:=by
 intro j hj
 rcases Nat.lt_or_ge j k with hlt|hge
 ·rw [show j=k-1 by omega];exact hk
 ·exact h j hge
theorem trimz_length_le(l:List Nat):(trimz l).length≤l.length:=by
 induction l with
 |nil=>simp [trimz]
 |cons x r ih =>
  simp only [trimz]
  cases h:trimz r with
  |nil=>by_cases hx:x=0<;>simp [hx]
  |cons y s=>rw [h] at ih;simpa using ih
def val:List Nat→Nat
 |[]=>0
 |x :: r=>x+1000000000*val r
def Lb(l:List Nat):Prop:=∀x∈l,x<1000000000
theorem Lb.nil:Lb []:=λ_ h=>by cases h
theorem Lb.cons{x:Nat}{r:List Nat}(h:x<1000000000)(k:Lb r):Lb (x :: r):=λy hy=>by
 rcases List.mem_cons.1 hy with rfl|hy
 ·exact h
 ·exact k y hy
theorem Lb.head{x:Nat}{r:List Nat}(h:Lb (x :: r)):x<1000000000:=h x (by simp)
theorem Lb.tail{x:Nat}{r:List Nat}(h:Lb (x :: r)):Lb r:=λy hy=>h y (by simp [hy])
theorem Lb.append{a b:List Nat}(h:Lb a)(k:Lb b):Lb (a++b):=λy hy=>by
 rcases List.mem_append.1 hy with hy|hy
 ·exact h y hy
 ·exact k y hy
theorem Lb.take{l:List Nat}(h:Lb l)(n:Nat):Lb (l.take n):=λy hy=>h y (List.mem_of_mem_take hy)
theorem Lb.drop{l:List Nat}(h:Lb l)(n:Nat):Lb (l.drop n):=λy hy=>h y (List.mem_of_mem_drop hy)
theorem Lb.getD{l:List Nat}(h:Lb l)(i:Nat):l.getD i 0<1000000000:=by
 by_cases hi:i<l.length
 ·have:=h l[i] (List.getElem_mem hi)
  simpa [List.getD,hi] using this
 ·simp [List.getD,hi]
theorem val_append:∀(a b:List Nat),val (a++b)=val a+1000000000 ^ a.length*val b
 |[],b=>by simp [val]
 |x :: r,b=>by
  have:=val_append r b
  simp only [List.cons_append,val,this,List.length_cons,Nat.pow_succ]
  rw [Nat.mul_add,← Nat.mul_assoc,Nat.add_assoc,Nat.mul_comm (1000000000 ^ r.length) 1000000000]
theorem val_lt:∀(l:List Nat),Lb l→val l<1000000000 ^ l.length
 |[],_=>by simp [val]
 |x :: r,h=>by
  have:=val_lt r h.tail
  have hx:=h.head
  simp only [val,List.length_cons,Nat.pow_succ]
  omega
theorem trimz_lb{l:List Nat}(h:Lb l):Lb (trimz l):=by
 induction l with
 |nil=>exact h
 |cons x r ih =>
  have hr:=ih h.tail
  simp only [trimz]
  cases ht:trimz r with
  |nil=>by_cases hx:x=0<;>simp [hx];exact Lb.nil;exact Lb.cons h.head Lb.nil
  |cons y s=>rw [ht] at hr;exact Lb.cons h.head hr
theorem val_trimz(l:List Nat):val (trimz l)=val l:=by
 induction l with
 |nil=>rfl
 |cons x r ih =>
  simp only [trimz]
  cases ht:trimz r with
  |nil =>
   rw [ht] at ih
   simp only [val] at ih
   by_cases hx:x=0<;>simp [hx,val,← ih]
  |cons y s=>rw [ht] at ih;simp only [val] at ih ⊢;rw [ih]
theorem trimz_trimz(l:List Nat):trimz (trimz l)=trimz l:=by
 induction l with
 |nil=>rfl
 |cons x r ih =>
  simp only [trimz]
  cases ht:trimz r with
  |nil=>by_cases hx:x=0<;>simp [hx,trimz]
  |cons y s =>
   rw [ht] at ih
   simp only [trimz] at ih ⊢
   cases hs:trimz s with
   |nil =>
    rw [hs] at ih
    by_cases hy:y=0<;>simp [hy] at ih ⊢
    exact ih
   |cons z u=>rw [hs] at ih;simp at ih;simp [ih]
def lim(n:Nat):List Nat:=if n=0 then [] else n % 1000000000 :: lim (n / 1000000000)
termination_by n
decreasing_by omega
theorem lim_zero:lim 0=[]:=by rw [lim];simp
theorem lim_pos{n:Nat}(h:n≠0):lim n=n % 1000000000 :: lim (n / 1000000000):=by rw [lim];simp [h]
theorem lim_nil{n:Nat}:lim n=[]↔n=0:=by
 constructor
 ·intro h
  by_cases h0:n=0
  ·exact h0
  ·rw [lim_pos h0] at h;cases h
 ·rintro rfl;exact lim_zero
theorem val_lim(n:Nat):val (lim n)=n:=by
 induction n using Nat.strongRecOn with
 |_ n ih =>
  by_cases h:n=0
  ·subst h;simp [lim_zero,val]
  ·rw [lim_pos h,val,ih _ (by omega)];omega
theorem lb_lim(n:Nat):Lb (lim n):=by
 induction n using Nat.strongRecOn with
 |_ n ih =>
  by_cases h:n=0
  ·subst h;rw [lim_zero];exact Lb.nil
  ·rw [lim_pos h];exact Lb.cons (Nat.mod_lt _ (by omega)) (ih _ (by omega))
theorem trimz_lim(n:Nat):trimz (lim n)=lim n:=by
 induction n using Nat.strongRecOn with
 |_ n ih =>
  by_cases h:n=0
  ·subst h;rw [lim_zero];rfl
  ·rw [lim_pos h]
   simp only [trimz,ih _ (show n / 1000000000<n by omega)]
   cases hl:lim (n / 1000000000) with
   |nil =>
    have:n / 1000000000=0:=lim_nil.1 hl
    have:n % 1000000000≠0:=by omega
    simp [this]
   |cons y s=>rfl
theorem lim_val:∀(l:List Nat),Lb l→lim (val l)=trimz l
 |[],_=>by simp [val,lim_zero,trimz]
 |x :: r,h=>by
  have ih:=lim_val r h.tail
  have hx:=h.head
  simp only [trimz,val]
  by_cases h0:x+1000000000*val r=0
  ·have hr:val r=0:=by omega
   have hx0:x=0:=by omega
   rw [hr,lim_zero] at ih
   rw [h0,lim_zero,← ih];simp [hx0]
  ·rw [lim_pos h0,show (x+1000000000*val r) % 1000000000=x by omega,show (x+1000000000*val r) / 1000000000=val r by omega,ih]
   cases ht:trimz r with
   |nil =>
    have hr:val r=0:=by have:=val_trimz r;rw [ht] at this;simpa [val] using this.symm
    have:x≠0:=by omega
    simp [this]
   |cons y s=>rfl
theorem take_zero{l:List Nat}{k:Nat}(hk:0<k)(h:(l.take k).getD (k-1) 0=0):l.getD (k-1) 0=0:=by
 have e:(l.take k).getD (k-1) 0=l.getD (k-1) 0:=by
  simp only [List.getD,List.getElem?_take]
  rw [if_pos (by omega)]
 rwa [e] at h
theorem take_last{l:List Nat}{k:Nat}(_:k≤l.length)(h:k=0∨(l.take k).getD (k-1) 0≠0):k=0∨l.getD (k-1) 0≠0:=by
 rcases Nat.eq_zero_or_pos k with h0|h0
 ·exact .inl h0
 ·refine .inr λh'=>(h.resolve_left (by omega)) ?_
  simp only [List.getD,List.getElem?_take]
  rw [if_pos (by omega)]
  exact h'
def CanL(l:List Nat):Prop:=Lb l∧trimz l=l
theorem CanL.lim(n:Nat):CanL (lim n):=⟨lb_lim n,trimz_lim n⟩
theorem CanL.eq{l:List Nat}(h:CanL l):Sw.lim (val l)=l:=by rw [lim_val l h.1,h.2]
theorem can_trimz{l:List Nat}(h:Lb l):CanL (trimz l):=⟨trimz_lb h,trimz_trimz l⟩
theorem can_iff{l:List Nat}(h:Lb l):CanL l↔(l=[]∨l.getD (l.length-1) 0≠0):=by
 constructor
 ·intro hc
  induction l with
  |nil=>exact .inl rfl
  |cons x r ih =>
   refine .inr ?_
   have hc2:=hc.2
   simp only [trimz] at hc2
   cases ht:trimz r with
   |nil =>
    rw [ht] at hc2
    by_cases hx:x=0
    ·simp [hx] at hc2
    ·simp [hx] at hc2;subst hc2;simpa using hx
   |cons y s =>
    rw [ht] at hc2
    simp at hc2
    subst hc2
    rcases ih h.tail ⟨h.tail,ht⟩ with h'|h'
    ·cases h'
    ·simpa [List.getD] using h'
 ·rintro (rfl|h')
  ·exact ⟨Lb.nil,rfl⟩
  ·refine ⟨h, ?_⟩
   have:=trimz_take l l.length (Nat.le_refl _) (λj hj=>by simp [List.getD,hj]) (.inr h')
   rw [List.take_length] at this
   exact this.symm
theorem can_pow{l:List Nat}(h:CanL l)(hn:l≠[]):1000000000 ^ (l.length-1)≤val l:=by
 have h1:=((can_iff h.1).1 h).resolve_left hn
 obtain ⟨i,x,rfl⟩:∃i x,l=i++[x]:=⟨l.dropLast,l.getLast hn,(List.dropLast_concat_getLast hn).symm⟩
 have hx:x≠0:=by simpa [List.getD] using h1
 rw [val_append]
 simp only [List.length_append,List.length_cons,List.length_nil,Nat.add_sub_cancel,val]
 have:=Nat.mul_le_mul_left (1000000000 ^ i.length) (show 1≤x+1000000000*0 by omega)
 omega
def cmpN(x y:Nat):Int:=if x<y then -1 else if y<x then 1 else 0
theorem cmpN_lt{x y:Nat}(h:x<y):cmpN x y = -1:=by simp [cmpN,h]
theorem cmpN_gt{x y:Nat}(h:y<x):cmpN x y=1:=by simp [cmpN,h];omega
theorem cmpN_eq{x y:Nat}(h:x=y):cmpN x y=0:=by subst h;simp [cmpN]
theorem val_lt_of_length{a b:List Nat}(ha:CanL a)(hb:CanL b)(h:a.length<b.length):val a<val b:=by
 have h1:=val_lt a ha.1
 have h2:=can_pow hb (by intro e;subst e;simp at h)
 have h3:1000000000 ^ a.length≤1000000000 ^ (b.length-1):=Nat.pow_le_pow_right (by omega) (by omega)
 omega
theorem val_lt_of_limb:∀{a b:List Nat} (i:Nat),Lb a→Lb b→a.length=b.length→i<a.length→(∀j,i<j→a.getD j 0=b.getD j 0)→a.getD i 0<b.getD i 0→val a<val b
 |[],_,i,_,_,_,hi,_,_=>by simp at hi
 |_ :: _,[],i,_,_,hl,_,_,_=>by simp at hl
 |x :: r,y :: s,0,_,_,hl,_,hj,h=>by
  have hrs:r=s:=by
   apply List.ext_getElem?
   intro k
   have:=hj (k+1) (by omega)
   simp only [getD_succ] at this
   have hl':r.length=s.length:=by simpa using hl
   by_cases hk:k<r.length
   ·have hk':k<s.length:=by omega
    simpa [List.getD,hk,hk'] using this
   ·have hk':¬ k<s.length:=by omega
    simp [hk,hk']
  subst hrs
  have h':x<y:=by simpa [List.getD] using h
  simp only [val];omega
 |x :: r,y :: s,i+1,ha,hb,hl,hi,hj,h=>by
  have ih:=val_lt_of_limb (a:=r) (b:=s) i ha.tail hb.tail (by simpa using hl) (by simpa using hi) (λj hj'=>by have:=hj (j+1) (by omega);simpa only [getD_succ] using this) (by simpa only [getD_succ] using h)
  have:=ha.head
  simp only [val];omega
theorem eq_of_limbs{a b:List Nat}(hl:a.length=b.length)(h:∀j,a.getD j 0=b.getD j 0):a=b:=by
 apply List.ext_getElem?
 intro k
 by_cases hk:k<a.length
 ·have hk':k<b.length:=by omega
  have:=h k
  simpa [List.getD,hk,hk'] using this
 ·have hk':¬ k<b.length:=by omega
  simp [hk,hk']
theorem agree_step{a b:List Nat}{k:Nat}(h:∀j,k≤j→a.getD j 0=b.getD j 0)(hk:a.getD (k-1) 0=b.getD (k-1) 0):∀j,k-1≤j→a.getD j 0=b.getD j 0:=by
 intro j hj
 rcases Nat.lt_or_ge j k with hlt|hge
 ·rw [show j=k-1 by omega];exact hk
 ·exact h j hge
theorem getD_none{l:List Nat}{k:Nat}(h:l.length≤k):l.getD k 0=0:=by simp [List.getD,h]
theorem val_take_succ(l:List Nat)(k:Nat):val (l.take (k+1))=val (l.take k)+1000000000 ^ k*l.getD k 0:=by
 by_cases h:k<l.length
 ·have e:l.take (k+1)=l.take k++[l.getD k 0]:=by
   rw [List.take_succ_eq_append_getElem h]
   simp [List.getD,h]
  rw [e,val_append]
  simp [val,Nat.min_eq_left (Nat.le_of_lt h)]
 ·rw [getD_none (by omega),List.take_of_length_le (by omega),List.take_of_length_le (by omega)]
  simp
theorem val_take_all{l:List Nat}{k:Nat}(h:l.length≤k):val (l.take k)=val l:=by rw [List.take_of_length_le h]
theorem val_zeros(n:Nat):val (List.replicate n 0)=0:=by
 induction n with
 |zero=>rfl
 |succ n ih=>simp [List.replicate_succ,val,ih]
theorem lb_zeros(n:Nat):Lb (List.replicate n 0):=λx hx=>by have:=(List.mem_replicate.1 hx).2;omega
theorem lb_set{l:List Nat}(h:Lb l){i d:Nat}(hd:d<1000000000):Lb (l.set i d):=λx hx=>by
 rcases List.mem_or_eq_of_mem_set hx with hx|rfl
 ·exact h x hx
 ·exact hd
theorem lb_snoc{l:List Nat}(h:Lb l){d:Nat}(hd:d<1000000000):Lb (l++[d]):=h.append (Lb.cons hd Lb.nil)
theorem take_set_lt{l:List Nat}{i d m:Nat}(h:m≤i):(l.set i d).take m=l.take m:=by
 apply List.ext_getElem?
 intro j
 simp only [List.getElem?_take,List.getElem?_set]
 by_cases hj:j<m
 ·rw [if_pos hj,if_pos hj,if_neg (by omega)]
 ·rw [if_neg hj,if_neg hj]
theorem getD_set_same{l:List Nat}{i d:Nat}(h:i<l.length):(l.set i d).getD i 0=d:=by simp [List.getD,h]
theorem getD_set_other{l:List Nat}{i j d:Nat}(h:i≠j):(l.set i d).getD j 0=l.getD j 0:=by simp [List.getD,h]
theorem val_set_take{l:List Nat}{k d:Nat}(h:k<l.length):val ((l.set k d).take (k+1))=val (l.take k)+1000000000 ^ k*d:=by
 rw [val_take_succ,take_set_lt (Nat.le_refl _),getD_set_same h]
theorem val_set_in{l:List Nat}{j d:Nat}(h:j<l.length):∀m,j<m→val ((l.set j d).take m)+1000000000 ^ j*l.getD j 0=val (l.take m)+1000000000 ^ j*d:=by
 intro m hm
 induction m with
 |zero=>omega
 |succ m ih =>
  by_cases e:j=m
  ·subst e
   rw [val_set_take h,val_take_succ]
   omega
  ·rw [val_take_succ,val_take_succ l m,getD_set_other e]
   have:=ih (by omega)
   omega
theorem carry_step(p d s:Nat)(h:s % 1000000000=d):p*d+p*1000000000*(s / 1000000000)=p*s:=by
 have:s=d+1000000000*(s / 1000000000):=by omega
 rw [Nat.mul_assoc,← Nat.mul_add,← this]
theorem plus_step{o x y:List Nat}{k cr s d c:Nat}(hk:k<o.length)(h:val (o.take k)+1000000000 ^ k*cr=val (x.take k)+val (y.take k))(hs:s=cr+x.getD k 0+y.getD k 0)(hd:d=s % 1000000000)(hc:c=s / 1000000000):
 val ((o.set k d).take (k+1))+1000000000 ^ (k+1)*c=val (x.take (k+1))+val (y.take (k+1)):=by
 subst hd hc
 rw [val_set_take hk,val_take_succ x,val_take_succ y,Nat.pow_succ]
 have h1:=carry_step (1000000000 ^ k) _ s rfl
 have h2:1000000000 ^ k*s=1000000000 ^ k*cr+1000000000 ^ k*x.getD k 0+1000000000 ^ k*y.getD k 0:=by rw [hs,Nat.mul_add,Nat.mul_add]
 omega
theorem plus_end{o x y:List Nat}{k cr:Nat}(ho:o.length=x.length+1)(hk:k=x.length)(hy:y.length≤x.length)(hv:val (o.take k)+1000000000 ^ k*cr=val (x.take k)+val (y.take k)):val (o.set x.length cr)=val x+val y:=by
 subst hk
 have h1:=val_set_take (d:=cr) (show x.length<o.length by omega)
 rw [val_take_all (by simp;omega),hv,val_take_all (Nat.le_refl _),val_take_all hy] at h1
 exact h1
theorem plus_snoc{o x y:List Nat}{k cr s d c:Nat}(hk:o.length=k)(h:val o+1000000000 ^ k*cr=val (x.take k)+val (y.take k))(hs:s=cr+x.getD k 0+y.getD k 0)(hd:d=s % 1000000000)(hc:c=s / 1000000000):
 val (o++[d])+1000000000 ^ (k+1)*c=val (x.take (k+1))+val (y.take (k+1)):=by
 subst hd hc
 rw [val_append,hk,val_take_succ x,val_take_succ y,Nat.pow_succ]
 have h1:=carry_step (1000000000 ^ k) _ s rfl
 have h2:1000000000 ^ k*s=1000000000 ^ k*cr+1000000000 ^ k*x.getD k 0+1000000000 ^ k*y.getD k 0:=by rw [hs,Nat.mul_add,Nat.mul_add]
 simp only [val,Nat.mul_zero,Nat.add_zero]
 omega
theorem val_snoc{o:List Nat}{k:Nat}(hk:o.length=k)(d:Nat):val (o++[d])=val o+1000000000 ^ k*d:=by
 rw [val_append,hk];simp [val]
theorem minus_step{o x y:List Nat}{k br d b:Nat}(hk:k<o.length)(h:val (o.take k)+val (y.take k)=val (x.take k)+1000000000 ^ k*br)(hs:d+(br+y.getD k 0)=x.getD k 0+1000000000*b):
 val ((o.set k d).take (k+1))+val (y.take (k+1))=val (x.take (k+1))+1000000000 ^ (k+1)*b:=by
 rw [val_set_take hk,val_take_succ x,val_take_succ y,Nat.pow_succ]
 have h2:1000000000 ^ k*(d+(br+y.getD k 0))=1000000000 ^ k*(x.getD k 0+1000000000*b):=by rw [hs]
 simp only [Nat.mul_add,← Nat.mul_assoc] at h2
 omega
theorem minus_end{o x y n br:Nat}(_:x<n)(h:o+y=x+n*br)(hy:y≤x)(ho:o<n):o=x-y:=by
 have:br=0:=by
  rcases Nat.eq_zero_or_pos br with h0|h0
  ·exact h0
  ·exfalso
   have:n*1≤n*br:=Nat.mul_le_mul_left n h0
   omega
 subst this
 omega
theorem times_step{o a b:List Nat}{i k m cr t d c p:Nat}(hj:i+k<o.length)(hm:i+k<m)(h:val (o.take m)+1000000000 ^ (i+k)*cr=p+1000000000 ^ i*(a.getD i 0*val (b.take k)))(ht:t=o.getD (i+k) 0+a.getD i 0*b.getD k 0+cr)(hd:d=t % 1000000000)(hc:c=t / 1000000000):
 val ((o.set (i+k) d).take m)+1000000000 ^ (i+(k+1))*c=p+1000000000 ^ i*(a.getD i 0*val (b.take (k+1))):=by
 subst hd hc
 have h0:=val_set_in (d:=t % 1000000000) hj m hm
 have h1:=carry_step (1000000000 ^ (i+k)) _ t rfl
 have h2:1000000000 ^ (i+k)*t=1000000000 ^ (i+k)*o.getD (i+k) 0+1000000000 ^ (i+k)*(a.getD i 0*b.getD k 0)+1000000000 ^ (i+k)*cr:=by rw [ht,Nat.mul_add,Nat.mul_add]
 have h3:1000000000 ^ i*(a.getD i 0*val (b.take (k+1)))=1000000000 ^ i*(a.getD i 0*val (b.take k))+1000000000 ^ (i+k)*(a.getD i 0*b.getD k 0):=by
  rw [val_take_succ,Nat.mul_add,Nat.mul_add,Nat.pow_add]
  congr 1
  simp only [Nat.mul_assoc,Nat.mul_left_comm,Nat.mul_comm]
 rw [h3,show i+(k+1)=(i+k)+1 by omega,Nat.pow_succ]
 omega
theorem times_row{o a b:List Nat}{i cr:Nat}(hj:i+b.length<o.length)(h:val (o.take (i+b.length))+1000000000 ^ (i+b.length)*cr=val (a.take i)*val b+1000000000 ^ i*(a.getD i 0*val (b.take b.length))):
 val ((o.set (i+b.length) cr).take (i+1+b.length))=val (a.take (i+1))*val b:=by
 rw [show i+1+b.length=i+b.length+1 by omega,val_set_take hj,h,List.take_length,val_take_succ,Nat.add_mul,Nat.mul_assoc]
theorem carry_lt{x y o c:Nat}(hx:x<1000000000)(hy:y<1000000000)(ho:o<1000000000)(hc:c<1000000000):x*y≤999999998000000001∧(o+x*y+c) / 1000000000<1000000000:=by
 have:=Nat.mul_le_mul (show x≤999999999 by omega) (show y≤999999999 by omega)
 refine ⟨by omega,by omega⟩
theorem drop_cons{l:List Nat}{k:Nat}(h:k<l.length):l.drop k=l.getD k 0 :: l.drop (k+1):=by
 rw [List.drop_eq_getElem_cons h]
 simp [List.getD,h]
theorem val_drop{l:List Nat}{k:Nat}(hk:0<k)(h:k≤l.length):val (l.drop (k-1))=l.getD (k-1) 0+1000000000*val (l.drop k):=by
 rw [drop_cons (show k-1<l.length by omega),val,show k-1+1=k by omega]
theorem val_drop_le(l:List Nat)(k:Nat):val (l.drop k)≤val l:=by
 have h:=val_append (l.take k) (l.drop k)
 rw [List.take_append_drop] at h
 have h1:1000000000 ^ 0≤1000000000 ^ (l.take k).length:=Nat.pow_le_pow_right (by omega) (Nat.zero_le _)
 rw [Nat.pow_zero] at h1
 have h2:1*val (l.drop k)≤1000000000 ^ (l.take k).length*val (l.drop k):=Nat.mul_le_mul_right _ h1
 omega
theorem val_drop_all{l:List Nat}{k:Nat}(h:l.length≤k):val (l.drop k)=0:=by rw [List.drop_eq_nil_of_le h];rfl
theorem drop_set_lt{l:List Nat}{i d k:Nat}(h:i<k):(l.set i d).drop k=l.drop k:=by
 apply List.ext_getElem?
 intro j
 simp only [List.getElem?_drop,List.getElem?_set]
 rw [if_neg (by omega)]
theorem val_set_drop{l:List Nat}{k d:Nat}(hk:0<k)(h:k≤l.length):val ((l.set (k-1) d).drop (k-1))=d+1000000000*val (l.drop k):=by
 rw [val_drop hk (by simpa using h),getD_set_same (by omega),drop_set_lt (by omega)]
theorem byword_step{a o:List Nat}{k b r t q:Nat}(hk:0<k)(ha:k≤a.length)(ho:k≤o.length)(h:val (a.drop k)=b*val (o.drop k)+r)(ht:t=r*1000000000+a.getD (k-1) 0)(hq:q=t / b):
 val (a.drop (k-1))=b*val ((o.set (k-1) q).drop (k-1))+t % b:=by
 subst hq
 rw [val_set_drop hk ho,val_drop hk ha,h]
 have h1:=Nat.div_add_mod t b
 have h3:b*(t / b+1000000000*val (o.drop k))=b*(t / b)+b*(1000000000*val (o.drop k)):=Nat.mul_add ..
 rw [h3]
 have h2:b*(1000000000*val (o.drop k))=1000000000*(b*val (o.drop k)):=by rw [← Nat.mul_assoc,Nat.mul_comm b,Nat.mul_assoc]
 rw [h2]
 omega
theorem byword_lt{r b x t:Nat}(hr:r<b)(hb:b<1000000000)(hx:x<1000000000)(ht:t=r*1000000000+x):t / b<1000000000∧t % b<b∧t<1000000000000000000:=by
 refine ⟨?_,Nat.mod_lt _ (by omega),by omega⟩
 rw [Nat.div_lt_iff_lt_mul (by omega)]
 have:r*1000000000+x<b*1000000000:=by omega
 rw [Nat.mul_comm 1000000000 b]
 omega
theorem lim_len_le{n k:Nat}(h:n<1000000000 ^ k):(lim n).length≤k:=by
 rcases Nat.lt_or_ge k (lim n).length with hlt|hge
 ·exfalso
  have h1:=can_pow (CanL.lim n) (by intro e;rw [e] at hlt;simp at hlt)
  rw [val_lim] at h1
  have h2:1000000000 ^ k≤1000000000 ^ ((lim n).length-1):=Nat.pow_le_pow_right (by omega) (by omega)
  omega
 ·exact hge
theorem lt_of_lim_len{n k:Nat}(h:(lim n).length≤k):n<1000000000 ^ k:=by
 have h1:=val_lt (lim n) (lb_lim n)
 rw [val_lim] at h1
 exact Nat.lt_of_lt_of_le h1 (Nat.pow_le_pow_right (by omega) h)
theorem lim_two{n:Nat}(h:(lim n).length=2):(lim n).getD 1 0*1000000000+(lim n).getD 0 0=n:=by
 have h1:=val_lim n
 match hl:lim n,h with
 |[x,y],_=>rw [hl] at h1;simp [val] at h1 ⊢;omega
theorem lim_one{n:Nat}(h:(lim n).length=1):(lim n).getD 0 0=n:=by
 have h1:=val_lim n
 match hl:lim n,h with
 |[x],_=>rw [hl] at h1;simp [val] at h1 ⊢;omega
theorem lim_len_zero{n:Nat}:(lim n).length=0↔n=0:=by rw [List.length_eq_zero_iff];exact lim_nil
def sgnv(neg:Bool)(n:Nat):Int:=if neg then -(n:Int) else n
theorem natAbs_sgnv(neg:Bool)(n:Nat):(sgnv neg n).natAbs=n:=by cases neg<;>simp [sgnv]
theorem neg_sgnv(neg:Bool)(n:Nat):decide (sgnv neg n<0)=(neg && decide (0<n)):=by cases neg<;>simp [sgnv]
theorem sgnv_of(x:Int):sgnv (decide (x<0)) x.natAbs=x:=by
 unfold sgnv
 by_cases h:x<0<;>simp [h]<;>omega
def sz(x:Int):Nat:=(lim x.natAbs).length
def cmpI(a b:Int):Int:=if a<b then -1 else if b<a then 1 else 0
def sgnI(a:Int):Int:=if a<0 then -1 else if a=0 then 0 else 1
theorem cmpI_neg{a b:Int}(ha:a<0)(hb:b<0):cmpI a b=cmpN b.natAbs a.natAbs:=by
 unfold cmpI cmpN
 have h1:(a<b)↔(b.natAbs<a.natAbs):=by omega
 have h2:(b<a)↔(a.natAbs<b.natAbs):=by omega
 simp only [h1,h2]
theorem cmpI_pos{a b:Int}(ha:¬ a<0)(hb:¬ b<0):cmpI a b=cmpN a.natAbs b.natAbs:=by
 unfold cmpI cmpN
 have h1:(a<b)↔(a.natAbs<b.natAbs):=by omega
 have h2:(b<a)↔(b.natAbs<a.natAbs):=by omega
 simp only [h1,h2]
theorem cmpI_lt{a b:Int}(h:a<b):cmpI a b = -1:=by simp [cmpI,h]
theorem cmpI_gt{a b:Int}(h:b<a):cmpI a b=1:=by unfold cmpI;rw [if_neg (by omega),if_pos h]
theorem cmpI_lt0{a b:Int}:cmpI a b<0↔a<b:=by unfold cmpI;split<;>(try split)<;>omega
theorem cmpI_gt0{a b:Int}:cmpI a b > 0↔b<a:=by unfold cmpI;split<;>(try split)<;>omega
theorem cmpI_eq0{a b:Int}:cmpI a b=0↔a=b:=by unfold cmpI;split<;>(try split)<;>omega
theorem cmpN_lt0{a b:Nat}:cmpN a b<0↔a<b:=by unfold cmpN;split<;>(try split)<;>omega
theorem cmpN_ge0{a b:Nat}:cmpN a b≥0↔b≤a:=by unfold cmpN;split<;>(try split)<;>omega
theorem cmpN_eq0{a b:Nat}:cmpN a b=0↔a=b:=by unfold cmpN;split<;>(try split)<;>omega
theorem sgnv_add{a b:Int}(h:decide (a<0)=decide (b<0)):sgnv (decide (a<0)) (a.natAbs+b.natAbs)=a+b:=by
 have h':(a<0)↔(b<0):=by simpa using h
 unfold sgnv
 by_cases ha:a<0
 ·have:=h'.1 ha;simp [ha];omega
 ·have:¬ b<0:=λhb=>ha (h'.2 hb);simp [ha];omega
theorem sgnv_sub{a b:Int}(h:¬ decide (a<0)=decide (b<0))(hle:b.natAbs≤a.natAbs):sgnv (decide (a<0)) (a.natAbs-b.natAbs)=a+b:=by
 have h':¬ ((a<0)↔(b<0)):=λe=>h (by simpa using e)
 unfold sgnv
 by_cases ha:a<0
 ·have:¬ b<0:=λhb=>h' ⟨λ_=>hb,λ_=>ha⟩;simp [ha];omega
 ·have:b<0:=by
   by_cases hb:b<0
   ·exact hb
   ·exact absurd ⟨λx=>absurd x ha,λx=>absurd x hb⟩ h'
  simp [ha];omega
theorem sgnv_mul(a b:Int):sgnv (decide (a<0) != decide (b<0)) (a.natAbs*b.natAbs)=a*b:=by
 have e:((a.natAbs*b.natAbs:Nat):Int)=(a.natAbs:Int)*(b.natAbs:Int):=by simp
 by_cases ha:a<0<;>by_cases hb:b<0
 ·have h1:(a.natAbs:Int) = -a:=by omega
  have h2:(b.natAbs:Int) = -b:=by omega
  simp only [sgnv,ha,hb]
  simp only [bne_self_eq_false,Bool.false_eq_true,if_false,e,h1,h2,Int.neg_mul_neg]
 ·have h1:(a.natAbs:Int) = -a:=by omega
  have h2:(b.natAbs:Int)=b:=by omega
  simp [sgnv,ha,hb,e,h1,h2,Int.neg_mul]
 ·have h1:(a.natAbs:Int)=a:=by omega
  have h2:(b.natAbs:Int) = -b:=by omega
  simp [sgnv,ha,hb,e,h1,h2,Int.mul_neg]
 ·have h1:(a.natAbs:Int)=a:=by omega
  have h2:(b.natAbs:Int)=b:=by omega
  simp [sgnv,ha,hb,e,h1,h2]
theorem sgnv_neg(a:Int):sgnv (!decide (a<0)) a.natAbs = -a:=by
 unfold sgnv
 by_cases h:a<0<;>simp [h]<;>omega
theorem lim_le_of_le{a b:Nat}(h:a≤b):(lim a).length≤(lim b).length:=by
 rcases Nat.lt_or_ge (lim b).length (lim a).length with hlt|hge
 ·have:=val_lt_of_length (CanL.lim b) (CanL.lim a) hlt
  rw [val_lim,val_lim] at this
  omega
 ·exact hge
end Go.Sw
namespace Go.Sw
open Go
theorem lim_lt(n:Nat):n<1000000000 ^ (lim n).length:=by
 have:=val_lt (lim n) (lb_lim n)
 rwa [val_lim] at this
theorem sz_le{x:Int}{k:Nat}(h:x.natAbs<1000000000 ^ k):sz x≤k:=lim_len_le h
theorem sz_add(a b:Int):sz (a+b)≤sz a+sz b+1:=by
 apply sz_le
 have ha:=lim_lt a.natAbs
 have hb:=lim_lt b.natAbs
 change a.natAbs<1000000000 ^ sz a at ha
 change b.natAbs<1000000000 ^ sz b at hb
 have h1:1000000000 ^ sz a≤1000000000 ^ (sz a+sz b):=Nat.pow_le_pow_right (by decide) (by omega)
 have h2:1000000000 ^ sz b≤1000000000 ^ (sz a+sz b):=Nat.pow_le_pow_right (by decide) (by omega)
 rw [Nat.pow_succ]
 omega
theorem sz_mul(a b:Int):sz (a*b)≤sz a+sz b:=by
 apply sz_le
 have ha:=lim_lt a.natAbs
 have hb:=lim_lt b.natAbs
 change a.natAbs<1000000000 ^ sz a at ha
 change b.natAbs<1000000000 ^ sz b at hb
 rw [Int.natAbs_mul,Nat.pow_add]
 rcases Nat.eq_zero_or_pos a.natAbs with h|h
 ·rw [h,Nat.zero_mul];exact Nat.mul_pos (Nat.pow_pos (by decide)) (Nat.pow_pos (by decide))
 ·exact Nat.mul_lt_mul_of_lt_of_lt ha hb
theorem sz_neg(a:Int):sz (-a)=sz a:=by unfold sz;rw [Int.natAbs_neg]
theorem sz_sub(a b:Int):sz (a-b)≤sz a+sz b+1:=by
 have:=sz_add a (-b)
 rw [sz_neg] at this
 rwa [Int.sub_eq_add_neg]
theorem sz_64{n:Int}(h1 : -9223372036854775808≤n)(h2:n≤9223372036854775807):sz n≤3:=sz_le (by omega)
theorem sz_mono{a b:Int}(h:a.natAbs≤b.natAbs):sz a≤sz b:=lim_le_of_le h
theorem sgnv_t{x:Int}(h:x<0):sgnv true x.natAbs=x:=by
 unfold sgnv
 rw [if_pos rfl];omega
theorem sgnv_f{x:Int}(h:¬ x<0):sgnv false x.natAbs=x:=by
 unfold sgnv
 rw [if_neg (by decide)];omega
end Go.Sw
