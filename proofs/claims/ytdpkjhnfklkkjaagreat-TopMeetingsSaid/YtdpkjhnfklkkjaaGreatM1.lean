/-
  Rules of the abstract run, plain laws, and what functions answer, for the law TopMeetings.
  Conditions: none.
-/
import Derived.WalkKit
import Derived.Orders
import Derived.Maps.AppendAt
set_option linter.all false
set_option maxHeartbeats 16000000
namespace Go.Sw
open Go Go.RowKit
theorem zaf{p:Prop}(h:p:=by first|((repeat' apply And.intro)<;>first|assumption|exact bF (by omega)|exact cO (by omega)|exact bV (ah _) (ah _))|fail):p:=h
theorem zah{p:Prop}(h:p:=by first|(simp only[bH,bM,dS,dN,dP,bC,eY, *,true_or,or_true,if_true,if_false,or_self,and_self,and_true,true_and,and_false,false_and,not_true,not_false_iff,eF,decide_true,decide_false,fJ,fK,fG,eX];rfl)|fail):p:=h
theorem zai{p:Prop}(h:p:=by first|(exfalso;rename ¬True=>h;exact h trivial)|fail):p:=h
theorem zaj{p:Prop}(h:p:=by first|(refine congrArg (λz=>some (AV.int .i64 z)) ?_;(try dsimp only);omega)|fail):p:=h
theorem zak{p:Prop}(h:p:=by first|(refine congrArg (λz=>some (AV.int .i64 z)) ?_;(try dsimp only);rw[bG (by omega) (by omega)];omega)|fail):p:=h
theorem zal{p:Prop}(h:p:=by first|((repeat' apply And.intro)<;>first|assumption|omega|exact bV (ah _) (ah _)|exact ah _|grind[jc,kE,oz,iD,lN,mX,kW,lq,jK,ny,mQ,jP,jT])|fail):p:=h
theorem zam{p:Prop}(h:p:=by first|(rw[hgn (by omega)];omega)|fail):p:=h
theorem zan{p:Prop}(h:p:=by first|((repeat' apply And.intro)<;>first|assumption|omega)|fail):p:=h
theorem zao{p:Prop}(h:p:=by first|((with_reducible show(_:Nat)=_);rfl)|fail):p:=h
theorem zaq{p:Prop}(h:p:=by first|((with_reducible show(_:Nat)<=_);simp only[rQ,bW,ji,mg];omega)|fail):p:=h
theorem zar{p:Prop}(h:p:=by first|((repeat' apply And.intro)<;>first|omega|(simp;done)|(simp;omega))|fail):p:=h
theorem zas{p:Prop}(h:p:=by first|(refine bE ?_;unfold Sprt.same;simp only[Rat.mul_comm];done)|fail):p:=h
theorem zat{p:Prop}(h:p:=by first|(refine bE ?_;show _=(decide (A*E=D*B)&&(decide (A*F=D*C)&&decide (B*F=E*C)));rw[Rat.mul_comm D B,Rat.mul_comm D C,Rat.mul_comm E C];done)|fail):p:=h
theorem zau{p:Prop}(h:p:=by first|(refine iE ?_;have z:=Ja (E5 (jl X Y)) b p q;show _ = -(LJ (E5 (jl X Y)) b p q);rw[bG (by omega) (by omega)];omega)|fail):p:=h
theorem zav{p:Prop}(h:p:=by first|(refine bE ?_;rw[WE (by with_reducible assumption) (by with_reducible assumption)];simp[*];done)|fail):p:=h
theorem zaw{p:Prop}(h:p:=by first|((with_reducible show aW _=_);rw[Cc (d:=O0) (k:=k) (by omega) hk.2 (by assumption)];rfl)|fail):p:=h
theorem zax{p:Prop}(h:p:=by first|((with_reducible show aW _=_);have hxx:k=l.length:=(by omega);subst hxx;rw[L8 (d:=O0) hk.2];rfl)|fail):p:=h
theorem η{p:Prop}(h:p:=by simp):p:=h
theorem κ{p:Prop}(h:p:=by simp;omega):p:=h
theorem ν{p:Prop}(h:p:=by grind):p:=h
theorem ξ{p:Prop}(h:p:=by assumption):p:=h
theorem υ{p:Prop}(h:p:=by simp[Op.operands]):p:=h
theorem χ{p:Prop}(h:p:=by simp_all;done):p:=h
theorem ψ{p:Prop}(h:p:=by decide):p:=h
theorem ω{p:Prop}(h:p:=by omega):p:=h
theorem IL:type_of% @Rat.intCast_le_intCast:=@Rat.intCast_le_intCast
theorem Jv:type_of% @Array.ext':=@Array.ext'
theorem Ju:type_of% @Nat.lt_or_ge:=@Nat.lt_or_ge
theorem Jy:type_of% @List.flatMap_cons:=@List.flatMap_cons
theorem JX:type_of% @List.any_eq_false:=@List.any_eq_false
theorem MQ:type_of% @List.getElem?_map:=@List.getElem?_map
theorem MV:type_of% @List.take_of_length_le:=@List.take_of_length_le
theorem MZ:type_of% @Nat.mul_le_mul:=@Nat.mul_le_mul
theorem uh:type_of% @List.mem_append:=@List.mem_append
theorem uP:type_of% @Int.natAbs_natCast:=@Int.natAbs_natCast
theorem uY:type_of% @Nat.zero_add:=@Nat.zero_add
theorem vI:type_of% @Option.map_some:=@Option.map_some
theorem vX:type_of% @List.mem_cons_of_mem:=@List.mem_cons_of_mem
theorem xB:type_of% @List.length_take:=@List.length_take
theorem yD:type_of% @Nat.eq_zero_or_pos:=@Nat.eq_zero_or_pos
theorem xZ:type_of% @List.map_cons:=@List.map_cons
theorem yQ:type_of% @List.mem_append_left:=@List.mem_append_left
theorem yS:type_of% @List.mem_filter:=@List.mem_filter
theorem Au:type_of% @Nat.zero_le:=@Nat.zero_le
theorem AO:type_of% @List.length_replicate:=@List.length_replicate
theorem Bd:type_of% @Option.getD_some:=@Option.getD_some
theorem AQ:type_of% @Rat.mul_nonneg:=@Rat.mul_nonneg
theorem Ea:type_of% @Nat.lt_of_lt_of_le:=@Nat.lt_of_lt_of_le
theorem EU:type_of% @Nat.pow_succ:=@Nat.pow_succ
theorem EN:type_of% @Nat.mul_add:=@Nat.mul_add
theorem EO:type_of% @Rat.le_total:=@Rat.le_total
theorem EG:type_of% @List.append_nil:=@List.append_nil
theorem Gt:type_of% @List.mem_of_getElem?:=@List.mem_of_getElem?
theorem Gx:type_of% @Nat.mul_comm:=@Nat.mul_comm
theorem Gi:type_of% @Nat.pow_le_pow_right:=@Nat.pow_le_pow_right
theorem F9:type_of% @Rat.mul_pos:=@Rat.mul_pos
theorem Jh:type_of% @Bool.not_eq_true':=@Bool.not_eq_true'
theorem I7:type_of% @Nat.blt_eq:=@Nat.blt_eq
theorem Ie:type_of% @Nat.mul_le_mul_left:=@Nat.mul_le_mul_left
theorem bV:type_of% @Int.mul_ne_zero:=@Int.mul_ne_zero
theorem bW:type_of% @List.length_map:=@List.length_map
theorem dI:type_of% @Int.toNat_natCast:=@Int.toNat_natCast
theorem eF:type_of% @Bool.false_eq_true:=@Bool.false_eq_true
theorem eX:type_of% @Bool.false_or:=@Bool.false_or
theorem fG:type_of% @Bool.or_false:=@Bool.or_false
theorem fJ:type_of% @Bool.or_true:=@Bool.or_true
theorem fK:type_of% @Bool.true_or:=@Bool.true_or
theorem fZ:type_of% @Nat.le_trans:=@Nat.le_trans
theorem gX:type_of% @Bool.and_eq_true:=@Bool.and_eq_true
theorem iV:type_of% @List.mem_map:=@List.mem_map
theorem jg:type_of% @Nat.le_refl:=@Nat.le_refl
theorem ji:type_of% @List.length_cons:=@List.length_cons
theorem jA:type_of% @List.mem_cons:=@List.mem_cons
theorem jX:type_of% @Nat.eq_of_beq_eq_true:=@Nat.eq_of_beq_eq_true
theorem kG:type_of% @List.length_set:=@List.length_set
theorem mg:type_of% @List.length_nil:=@List.length_nil
theorem ou:type_of% @Prod.mk.injEq:=@Prod.mk.injEq
theorem oH:type_of% @List.all_eq_true:=@List.all_eq_true
theorem pI:type_of% @List.mem_singleton:=@List.mem_singleton
theorem pW:type_of% @List.getElem?_eq_getElem:=@List.getElem?_eq_getElem
theorem qx:type_of% @Nat.mod_lt:=@Nat.mod_lt
theorem qG:type_of% @List.getElem?_eq_some_iff:=@List.getElem?_eq_some_iff
theorem qH:type_of% @Option.some.injEq:=@Option.some.injEq
theorem qP:type_of% @List.mem_append_right:=@List.mem_append_right
theorem rQ:type_of% @List.length_append:=@List.length_append
theorem Zz:type_of% @Option.bind_some:=@Option.bind_some
theorem ZC:type_of% @Bool.true_and:=@Bool.true_and
theorem Zt:type_of% @Nat.mul_assoc:=@Nat.mul_assoc
theorem Zw:type_of% @Option.getD_none:=@Option.getD_none
theorem Zv:type_of% @Bool.or_eq_true:=@Bool.or_eq_true
theorem Zr:type_of% @List.getD_eq_getElem?_getD:=@List.getD_eq_getElem?_getD
theorem ZE:type_of% @List.flatten_cons:=@List.flatten_cons
theorem ZA:type_of% @List.getElem?_append_right:=@List.getElem?_append_right
theorem qbI:type_of% @List.ext_getElem?:=@List.ext_getElem?
theorem qbJ:type_of% @List.getElem_mem:=@List.getElem_mem
theorem qbK:type_of% @Array.length_toList:=@Array.length_toList
theorem qbL:type_of% @List.mem_of_mem_take:=@List.mem_of_mem_take
theorem oU:type_of% @List.take_length:=@List.take_length
theorem qbN:type_of% @List.nil_append:=@List.nil_append
theorem qbO:type_of% @List.flatMap_append:=@List.flatMap_append
theorem qbP:type_of% @List.pairwise_iff_getElem:=@List.pairwise_iff_getElem
theorem qbQ:type_of% @Array.mapM_eq_mapM_toList:=@Array.mapM_eq_mapM_toList
theorem Na:type_of% @List.foldl_cons:=@List.foldl_cons
theorem MR:type_of% @List.drop_drop:=@List.drop_drop
theorem OU:type_of% @Nat.div_le_self:=@Nat.div_le_self
theorem Pz:type_of% @List.getElem?_take:=@List.getElem?_take
theorem Pj:type_of% @List.getElem?_drop:=@List.getElem?_drop
theorem RP:type_of% @List.take_append_drop:=@List.take_append_drop
theorem TM:type_of% @List.getElem?_toArray:=@List.getElem?_toArray
theorem UA:type_of% @List.getElem?_append_left:=@List.getElem?_append_left
theorem TP:type_of% @Nat.mul_zero:=@Nat.mul_zero
theorem Sj:type_of% @Rat.intCast_mul:=@Rat.intCast_mul
theorem S9:type_of% @List.append_assoc:=@List.append_assoc
theorem UU:type_of% @Option.some.inj:=@Option.some.inj
theorem UR:type_of% @List.eq_nil_of_length_eq_zero:=@List.eq_nil_of_length_eq_zero
theorem UW:type_of% @List.drop_zero:=@List.drop_zero
theorem UZ:type_of% @List.map_append:=@List.map_append
theorem UY:type_of% @Nat.succ_mul:=@Nat.succ_mul
theorem U5:type_of% @Array.getD_eq_getD_getElem?:=@Array.getD_eq_getD_getElem?
theorem Vt:type_of% @List.getElem_of_mem:=@List.getElem_of_mem
theorem Yx:type_of% @List.size_toArray:=@List.size_toArray
theorem WR:type_of% @Int.natCast_mul:=@Int.natCast_mul
theorem Yg:type_of% @Int.fdiv_eq_ediv_of_nonneg:=@Int.fdiv_eq_ediv_of_nonneg
theorem Zq:type_of% @Nat.beq_refl:=@Nat.beq_refl
theorem Yf:type_of% @List.toList_toArray:=@List.toList_toArray
theorem YT:type_of% @Nat.mod_eq_of_lt:=@Nat.mod_eq_of_lt
def lk(t:Nat):List (Nat×Value)->Option Value
 |[]=>none
 |(s,v)::r=>cond (Nat.beq s t) (some v) (lk t r)
theorem gI{a b:Nat}(h:¬ a=b):Nat.beq a b=false:=by
 cases e:Nat.beq a b with
 |false=>rfl
 |true=>exact absurd (jX e) h
structure Frm (N:Nat) (a:Act) (L:List (Nat × Value)):Prop where
 size:a.tmps.size=N
 defers:a.defers=[]
 get:∀t v,lk t L=some v->a.tmps.getD t undef=v
theorem Frm.put{N:Nat}{a:Act}{L:List (Nat×Value)}(h:Frm N a L){d:Nat}(hd:d<N)(v:Value):Frm N (a.put (some d) v) ((d,v)::L):=by
 refine⟨by simp[Act.put,h.size],h.defers,λt u hu=>?_⟩;simp only[lk]at hu
 by_cases e:d=t
 .subst e;simp at hu;subst hu;have:d<a.tmps.size:=by rw[h.size];exact hd
  simp[Act.put,this]
 .have e':Nat.beq d t=false:=gI e;rw[e']at hu;have:=h.get t u hu;simp only[Act.put,U5]at this ⊢;rw[Array.getElem?_setIfInBounds_ne e];exact this
theorem Frm.nil{N:Nat}{a:Act}{L:List (Nat×Value)}(h:Frm N a L):Frm N a []:=⟨h.size,h.defers,λ_ _ hv=>by simp[lk]at hv⟩
theorem Frm.cons{N:Nat}{a:Act}{L:List (Nat×Value)}(h:Frm N a L){t:Nat}{v:Value}(hv:a.tmps.getD t undef=v):Frm N a ((t,v)::L):=by
 refine⟨h.size,h.defers,λs u hu=>?_⟩;simp only[lk]at hu
 by_cases e:t=s
 .subst e;simp at hu;rw[hv,hu]
 .have e':Nat.beq t s=false:=gI e;rw[e']at hu;exact h.get s u hu
theorem Frm.take{N:Nat}{a:Act}{L L':List (Nat×Value)}(h:Frm N a L)(h':Frm N a L'){t:Nat}{v:Value}(hv:lk t L=some v):Frm N a ((t,v)::L') :=
 h'.cons (h.get t v hv)
def ev(L:List (Nat×Value)):Operand->Option Value
 |.tmp t=>lk t L
 |.const v=>some v
 |.global g=>some (.pointer (some ⟨g,0,none⟩))
 |.func f=>some (.func (.func f) #[] #[])
theorem Frm.ev{N:Nat}{a:Act}{L:List (Nat×Value)}(h:Frm N a L){x:Operand}{v:Value}(hv:Sw.ev L x=some v):a.eval x=v:=by
 cases x with
 |tmp t=>exact h.get t v hv
 |const u=>exact UU hv
 |global g=>exact UU hv
 |func f=>exact UU hv
abbrev Bx:=Nat×TypeId×Array Value
structure St (w0 w:World) (L:List Bx):Prop where
 below:Below w0.heap.size w0 w
 box:∀b∈L,w.heap[b.1]?=some (.cells b.2.2 b.2.1 (0,0))/\w0.heap.size<=b.1
 nd:L.Pairwise λa b=>a.1≠b.1
def bl(L:List Bx):List Nat:=L.map (·.1)
theorem lt_of_heap{w:World}{g:Nat}{o:Obj}(h:w.heap[g]?=some o):g<w.heap.size:=(Array.getElem?_eq_some_iff.1 h).1
theorem St.refl(w:World):St w w []:=⟨Below.refl _ _,λ_ h=>absurd h η,List.Pairwise.nil⟩
theorem St.lt{w0 w:World}{L:List Bx}(h:St w0 w L){b:Bx}(hb:b∈L):b.1<w.heap.size:=lt_of_heap (h.box b hb).1
theorem St.bnd{w0 w:World}{L:List Bx}(h:St w0 w L){X:List Nat}(hX:∀m∈X,m<w0.heap.size):∀m∈bl L++X,m<w.heap.size:=by
 intro m hm;rcases uh.1 hm with hm|hm
 .obtain⟨b,hb,rfl⟩:=iV.1 hm;exact h.lt hb
 .exact Ea (hX m hm) h.below.size
theorem St.get{w0 w:World}{L:List Bx}(h:St w0 w L)(k:Nat){g:Nat}{t:TypeId}{cs:Array Value}(hk:L[k]?=some (g,t,cs)):w.heap[g]?=some (.cells cs t (0,0)) :=
 (h.box _ (Gt hk)).1
theorem St.base{w0 w:World}{L:List Bx}(h:St w0 w L)(k:Nat){g:Nat}{t:TypeId}{cs:Array Value}(hk:L[k]?=some (g,t,cs)):w0.heap.size<=g :=
 (h.box _ (Gt hk)).2
theorem St.drew{w0 w:World}{L:List Bx}(h:St w0 w L):St w0 w.drew L:=⟨h.below.drew,h.box,h.nd⟩
theorem St.alloc{w0 w:World}{L:List Bx}(h:St w0 w L)(cs:Array Value)(t:TypeId):St w0 (w.alloc (.cells cs t)) ((w.heap.size,t,cs)::L):=by
 refine⟨h.below.alloc h.below.size _,λb hb=>?_, ?_⟩
 .rcases jA.1 hb with rfl|hb
  .exact⟨heap_alloc_new w _,h.below.size⟩
  .exact⟨(Below.heap_alloc w _ _ (h.lt hb)).trans (h.box b hb).1,(h.box b hb).2⟩
 .exact List.pairwise_cons.2 ⟨λb hb=>Nat.ne_of_gt (h.lt hb),h.nd⟩
theorem St.alloc_{w0 w:World}{L:List Bx}(h:St w0 w L)(o:Obj):St w0 (w.alloc o) L :=
 ⟨h.below.alloc h.below.size _,λb hb=>⟨(Below.heap_alloc w _ _ (h.lt hb)).trans (h.box b hb).1,(h.box b hb).2⟩,h.nd⟩
theorem St.call{w0 w w':World}{L:List Bx}(h:St w0 w L)(hb:Below w.heap.size w w'):St w0 w' L :=
 ⟨h.below.trans (hb.mono h.below.size),λb hb'=>⟨(hb.block _ (h.lt hb')).trans (h.box b hb').1,(h.box b hb').2⟩,h.nd⟩
theorem St.drop{w0 w:World}{L L':List Bx}(h:St w0 w L)(hs:L'.Sublist L):St w0 w L' :=
 ⟨h.below,λb hb=>h.box b (hs.subset hb),h.nd.sublist hs⟩
theorem St.push{w0 w:World}{L:List Bx}(h:St w0 w L){g:Nat}{t:TypeId}{cs:Array Value}(hg:w.heap[g]?=some (.cells cs t (0,0)))(h0:w0.heap.size<=g)(hn:g ∉ bl L):St w0 w ((g,t,cs)::L):=by
 refine⟨h.below,λb hb=>?_,List.pairwise_cons.2 ⟨λb hb e=>hn (iV.2 ⟨b,hb,e.symm⟩),h.nd⟩⟩;rcases jA.1 hb with rfl|hb
 .exact⟨hg,h0⟩
 .exact h.box b hb
theorem YW{L:List Bx}(k:Nat){g:Nat}{t t':TypeId}{cs cs':Array Value}(hk:L[k]?=some (g,t,cs)):bl (L.set k (g,t',cs'))=bl L:=by
 have hlt:k<L.length:=(qG.1 hk).1;have hv:L[k]=(g,t,cs):=(qG.1 hk).2;apply qbI;intro i;simp only[bl,MQ,List.getElem?_set]
 by_cases hi:k=i
 .subst hi;simp[hlt,hv]
 .simp[hi]
theorem XO{L:List Bx}(h:L.Pairwise λa b=>a.1≠b.1)(k:Nat){g:Nat}{t t':TypeId}{cs cs':Array Value}(hk:L[k]?=some (g,t,cs)):
 (L.set k (g,t',cs')).Pairwise (λa b=>a.1≠b.1):=by
 have h':(bl L).Pairwise (·≠·):=List.pairwise_map.2 h;rw[<-YW (t':=t') (cs':=cs') k hk]at h';exact List.pairwise_map.1 h'
theorem St.write{w0 w w':World}{L:List Bx}(h:St w0 w L)(k:Nat){g:Nat}{t:TypeId}{cs cs':Array Value}(hk:L[k]?=some (g,t,cs))
 (hg:w.grownBy w' (some g)) (hn:w'.heap[g]?=some (.cells cs' t (0,0))):St w0 w' (L.set k (g,t,cs')):=by
 refine⟨h.below.grown hg h.below.size (λk' hk'=>by cases hk';exact h.base k hk),λb hb=>?_,XO h.nd k hk⟩;obtain⟨i,hi,rfl⟩:=Vt hb
 by_cases e:k=i
 .subst e;simp only[List.getElem_set_self];exact⟨hn,h.base k hk⟩
 .rw[List.getElem_set_ne e];have hil:i<L.length:=by simpa using hi
  have hkl:k<L.length:=(qG.1 hk).1;have hm:L[i]∈L:=qbJ hil
  have hne:(L[i]).1≠g:=by
   have hkv:L[k]=(g,t,cs):=by have:=hk;rw[pW hkl]at this;exact UU this
   rcases Nat.lt_or_gt_of_ne e with hlt|hgt
   .have:=qbP.1 h.nd k i hkl hil hlt;rw[hkv]at this;exactλe=>this e.symm
   .have:=qbP.1 h.nd i k hil hkl hgt;rw[hkv]at this;exact this
  exact⟨(hg.block _ (h.lt hm) (λe=>hne (by injection e))).trans (h.box _ hm).1,(h.box _ hm).2⟩
def NoMap(w:World)(k:Nat):Prop:=∀es c,w.heap[k]?≠some (.map es c)
theorem NoMap.of_cell{w:World}{a:Addr}{u:Value}(h:w.cell? a=some u):NoMap w a.block:=λes c e=>by
 unfold World.cell? at h;rw[e]at h;cases h
structure Ext (w:World) (X:List Nat) (w':World) (X':List Nat):Prop where
 size:w.heap.size<=w'.heap.size
 block:∀k,k<w.heap.size->k ∉ X->NoMap w k->w'.heap[k]?=w.heap[k]?/\k ∉ X'
theorem Ext.refl(w:World)(X:List Nat):Ext w X w X:=⟨jg _,λ_ _ h _=>⟨rfl,h⟩⟩
theorem Ext.trans{w w' w'':World}{X X' X'':List Nat}(h:Ext w X w' X')(k:Ext w' X' w'' X''):Ext w X w'' X'' :=
 ⟨fZ h.size k.size,λi hi hx hm=>by
  obtain⟨h1,h2⟩:=h.block i hi hx hm;obtain⟨k1,k2⟩:=k.block i (Ea hi h.size) h2 (λes c=>by rw[h1];exact hm es c)
  exact⟨k1.trans h1,k2⟩⟩
theorem Ext.drew(w:World)(X:List Nat):Ext w X w.drew X:=⟨jg _,λ_ _ h _=>⟨rfl,h⟩⟩
theorem Ext.call{w w':World}(X:List Nat)(h:Below w.heap.size w w'):Ext w X w' X:=⟨h.size,λk hk hx _=>⟨h.block k hk,hx⟩⟩
theorem Ext.alloc(w:World)(X:List Nat)(o:Obj):Ext w X (w.alloc o) (w.heap.size::X) :=
 ⟨η,λk hk hx _=>⟨Below.heap_alloc w o k hk,by simp[hx];omega⟩⟩
theorem Ext.alloc_(w:World)(X:List Nat)(o:Obj):Ext w X (w.alloc o) X :=
 ⟨η,λk hk hx _=>⟨Below.heap_alloc w o k hk,hx⟩⟩
theorem Ext.write{w w':World}{X:List Nat}{g:Nat}(h:w.grownBy w' (some g))(hg:g∈X):Ext w X w' X :=
 ⟨h.size,λk hk hx _=>⟨h.block k hk (λe=>hx (by injection e with e;rw[e];exact hg)),hx⟩⟩
theorem Ext.drop{w:World}{X X':List Nat}(h:∀x∈X',x∈X):Ext w X w X':=⟨jg _,λ_ _ hx _=>⟨rfl,λh'=>hx (h _ h')⟩⟩
theorem Ext.add{w:World}{X:List Nat}{g:Nat}{w1:World}{X1:List Nat}(h:Ext w1 X1 w X)(hg:w1.heap.size<=g):Ext w1 X1 w (g::X) :=
 ⟨h.size,λk hk hx hm=>⟨(h.block k hk hx hm).1,by have:=(h.block k hk hx hm).2;simp[this];omega⟩⟩
def Cl(w:World)(X:List Nat)(A:Option Addr)(vs:List Value):Prop :=
 vs≠[]->∃ad,A=some ad/\ad.block<w.heap.size/\ad.block ∉ X/\∀j u,vs[j]?=some u->w.cell? (ad.add j)=some u
theorem block_add(a:Addr)(n:Nat):(a.add n).block=a.block:=by unfold Addr.add;split<;>rfl
theorem add_add'(a:Addr)(i j:Nat):(a.add i).add j=a.add (i+j):=by
 unfold Addr.add
 by_cases hi:i=0<;>by_cases hj:j=0<;>simp[hi,hj,Nat.add_assoc]
theorem Cl.nil(w:World)(X:List Nat)(A:Option Addr):Cl w X A []:=λh=>absurd rfl h
theorem Cl.ext{w w':World}{X X':List Nat}{A:Option Addr}{vs:List Value}(h:Cl w X A vs)(e:Ext w X w' X'):Cl w' X' A vs:=λhv=>by
 obtain⟨ad,rfl,hb,hx,hc⟩:=h hv
 obtain⟨e1,e2⟩:=e.block _ hb hx (by
  obtain⟨u,r,rfl⟩:=List.exists_cons_of_ne_nil hv;have:=NoMap.of_cell (hc 0 u rfl);rw[block_add]at this
  exact this)
 exact⟨ad,rfl,Ea hb e.size,e2,λj u hu=>(World.cell?_of_block (w:=w) (by rw[block_add];exact e1)).trans (hc j u hu)⟩
theorem Cl.at_{w:World}{X:List Nat}{A:Option Addr}{vs:List Value}(h:Cl w X A vs){j:Nat}{u:Value}(hu:vs[j]?=some u):∃ad,A=some ad/\w.cell? (ad.add j)=some u:=by
 obtain⟨ad,rfl,_,_,hc⟩:=h (by intro e;subst e;simp at hu);exact⟨ad,rfl,hc j u hu⟩
theorem Cl.at2{w:World}{X:List Nat}{A:Option Addr}{vs:List Value}(h:Cl w X A vs){j:Nat}{u:Value}(hu:vs[j]?=some u):∃ad,A=some ad/\∀{w':World} {X':List Nat},Ext w X w' X'->w'.cell? (ad.add j)=some u:=by
 obtain⟨ad,rfl,hb,hx,hc⟩:=h (by intro e;subst e;simp at hu);exact⟨ad,rfl,λe=>(World.cell?_of_block (w:=w) (by rw[block_add];exact(e.block _ hb hx (by have:=NoMap.of_cell (hc j u hu);rw[block_add]at this;exact this)).1)).trans (hc j u hu)⟩
theorem Cl.take{w:World}{X:List Nat}{A:Option Addr}{vs:List Value}(h:Cl w X A vs)(n:Nat):Cl w X A (vs.take n):=λhv=>by
 obtain⟨ad,rfl,hb,hx,hc⟩:=h (by intro e;subst e;simp at hv);refine⟨ad,rfl,hb,hx,λj u hu=>hc j u ?_⟩;rw[Pz]at hu;split at hu
 .exact hu
 .cases hu
theorem Cl.drop{w:World}{X:List Nat}{A:Option Addr}{vs:List Value}(h:Cl w X A vs)(n:Nat):Cl w X (A.map (·.add n)) (vs.drop n):=λhv=>by
 obtain⟨ad,rfl,hb,hx,hc⟩:=h (by intro e;subst e;simp at hv);refine⟨ad.add n,rfl,by rw[block_add];exact hb,by rw[block_add];exact hx,λj u hu=>?_⟩;rw[add_add'];exact hc _ u (by rw[<-hu,Pj])
theorem Cl.of_block{w:World}{X:List Nat}{g:Nat}{t:TypeId}{cs:Array Value}{fr:Nat×Nat}(hg:w.heap[g]?=some (.cells cs t fr))(hx:g ∉ X)(n:Nat):Cl w X (some ⟨g,0,none⟩) (cs.toList.take n):=λ_=>by
 refine⟨_,rfl,lt_of_heap hg,hx,λj u hu=>?_⟩;rw[Addr.add_lit,uY,cell_of_row w g j cs t fr hg];rw[Pz]at hu;split at hu
 .simpa using hu
 .cases hu
def isRow(P:Program)(t:TypeId)(n:Nat):Bool :=
 (match P.underlying t with|some (.struct _)=>true|some (.array _ _)=>true|_=>false)&&decide ((P.info? t).map (·.size)=some n)
def jq(P:Program)(t:TypeId):Bool :=
 (match P.underlying t with|some (.struct _)=>false|some (.array _ _)=>false|some _=>true|none=>false)&&decide ((P.info? t).map (·.size)=some 1)
def uK(P:Program)(t:TypeId)(i:Nat):Option Nat :=
 match P.underlying t with
 |some (.struct fs)=>match fs[i]? with
  |some f=>if(P.info? f.type).map (·.size)=some 0 then none else if(P.info? f.type).isSome then some f.offset else none
  |none=>none
 |_=>none
def sliceOf(P:Program)(t:TypeId):Option (TypeId×Nat) :=
 match P.underlying t with
 |some (.slice e)=>(P.info? e).map λi=>(e,i.size)
 |_=>none
def zeroOf(P:Program)(t:TypeId):Option (Array Value):=(P.info? t).bind λi=>i.zero.map Value.cells
def X5(P:Program)(t:TypeId):Option IntKind:=match P.underlying t with|some (.int k)=>some k|_=>none
section
variable {P:Program} {ρ:Operand->Value} {w:World} {d:Option Tmp} {ty:TypeId} {pos:String} {af:Array Edge} {gd:Option (Nat × Bool)}
theorem bT{x:Operand}{v:Value}(hx:ρ x=v):(execOp ρ ⟨d,.move x,ty,pos,af,gd⟩).run P w=.ok (.value v) w:=by
 simp[execOp,hx]
theorem jF{x:Operand}{v:Value}(hx:ρ x=v):(execOp ρ ⟨d,.assign x,ty,pos,af,gd⟩).run P w=.ok (.value v) w:=by
 simp[execOp,hx]
theorem vS{c a b:Operand}{p:Bool}{u v r:Value}(hc:ρ c=.bool p)(ha:p=true->ρ a=u)(hb:p=false->ρ b=v)(hr:r=if p then u else v):
 (execOp ρ ⟨d,.pick c a b,ty,pos,af,gd⟩).run P w=.ok (.value r) w:=by
 subst hr;cases p
 .simp[execOp,hc,asBool,hb rfl]
 .simp[execOp,hc,asBool,ha rfl]
theorem dX{t u:TypeId}{x y:Operand}{k:IntKind}{a b c:Int}(hx:ρ x=.int k a)(hy:ρ y=.int k b)(hc:k.wrap (a+b)=c):
 (execOp ρ ⟨d,.binOp .add t x y u,ty,pos,af,gd⟩).run P w=.ok (.value (.int k c)) w:=by
 simp[execOp,hx,hy,go_sem,Op.intArith,hc]
theorem iI{t u:TypeId}{x y:Operand}{k:IntKind}{a b c:Int}(hx:ρ x=.int k a)(hy:ρ y=.int k b)(hc:k.wrap (a-b)=c):
 (execOp ρ ⟨d,.binOp .sub t x y u,ty,pos,af,gd⟩).run P w=.ok (.value (.int k c)) w:=by
 simp[execOp,hx,hy,go_sem,Op.intArith,hc]
theorem zT{t u:TypeId}{x y:Operand}{k:IntKind}{a b c:Int}(hx:ρ x=.int k a)(hy:ρ y=.int k b)(hc:k.wrap (a*b)=c):
 (execOp ρ ⟨d,.binOp .mul t x y u,ty,pos,af,gd⟩).run P w=.ok (.value (.int k c)) w:=by
 simp[execOp,hx,hy,go_sem,Op.intArith,hc]
theorem zJ{t u:TypeId}{x y:Operand}{k:IntKind}{a b c:Int}(hx:ρ x=.int k a)(hy:ρ y=.int k b)(hb:b≠0)(hc:k.wrap (a.tdiv b)=c):
 (execOp ρ ⟨d,.binOp .quo t x y u,ty,pos,af,gd⟩).run P w=.ok (.value (.int k c)) w:=by
 simp[execOp,hx,hy,go_sem,Op.intDiv,hb,hc]
theorem Ep{t u:TypeId}{x y:Operand}{k:IntKind}{a b c:Int}(hx:ρ x=.int k a)(hy:ρ y=.int k b)(hb:b≠0)(hc:a.tmod b=c):
 (execOp ρ ⟨d,.binOp .rem t x y u,ty,pos,af,gd⟩).run P w=.ok (.value (.int k c)) w:=by
 simp[execOp,hx,hy,go_sem,Op.intDiv,hb,hc]
theorem Y8{t u:TypeId}{x y:Operand}{k:IntKind}{a b:Int}(hx:ρ x=.int k a)(hy:ρ y=.int k b):
 (execOp ρ ⟨d,.binOp .eql t x y u,ty,pos,af,gd⟩).run P w=.ok (.value (.bool (decide (a=b)))) w:=by
 simp[execOp,hx,hy,go_sem];rfl
theorem afq{t u:TypeId}{x y:Operand}{k:IntKind}{a b:Int}(hx:ρ x=.int k a)(hy:ρ y=.int k b):
 (execOp ρ ⟨d,.binOp .neq t x y u,ty,pos,af,gd⟩).run P w=.ok (.value (.bool (!decide (a=b)))) w:=by
 simp[execOp,hx,hy,go_sem,bne];rfl
theorem qF{t u:TypeId}{x y:Operand}{k:IntKind}{a b:Int}(hx:ρ x=.int k a)(hy:ρ y=.int k b):
 (execOp ρ ⟨d,.binOp .lss t x y u,ty,pos,af,gd⟩).run P w=.ok (.value (.bool (decide (a<b)))) w:=by
 simp[execOp,hx,hy,go_sem]
theorem aeX{t u:TypeId}{x y:Operand}{k:IntKind}{a b:Int}(hx:ρ x=.int k a)(hy:ρ y=.int k b):
 (execOp ρ ⟨d,.binOp .leq t x y u,ty,pos,af,gd⟩).run P w=.ok (.value (.bool (decide (a<=b)))) w:=by
 simp[execOp,hx,hy,go_sem]
theorem I4{t u:TypeId}{x y:Operand}{k:IntKind}{a b:Int}(hx:ρ x=.int k a)(hy:ρ y=.int k b):
 (execOp ρ ⟨d,.binOp .gtr t x y u,ty,pos,af,gd⟩).run P w=.ok (.value (.bool (decide (a>b)))) w:=by
 simp[execOp,hx,hy,go_sem]
theorem uo{t u:TypeId}{x y:Operand}{k:IntKind}{a b:Int}(hx:ρ x=.int k a)(hy:ρ y=.int k b):
 (execOp ρ ⟨d,.binOp .geq t x y u,ty,pos,af,gd⟩).run P w=.ok (.value (.bool (decide (a>=b)))) w:=by
 simp[execOp,hx,hy,go_sem]
theorem run_equal_bool(t:TypeId)(h:P.underlying t=some .bool)(a b:Bool):(Op.equal t (.bool a) (.bool b)).run P w=.ok (a == b) w:=by
 unfold Op.equal;show(Op.equalIn (9999+1) t _ _).run P w=_;rw[Op.equalIn];simp[run_underlying h]
theorem afx{t u:TypeId}{x y:Operand}{a b:Bool}(ht:P.underlying t=some .bool)(hx:ρ x=.bool a)(hy:ρ y=.bool b):
 (execOp ρ ⟨d,.binOp .eql t x y u,ty,pos,af,gd⟩).run P w=.ok (.value (.bool (a == b))) w:=by
 simp[execOp,hx,hy,go_sem,binOp,run_equal_bool t ht]
theorem aeR{t u:TypeId}{x y:Operand}{a b:Bool}(ht:P.underlying t=some .bool)(hx:ρ x=.bool a)(hy:ρ y=.bool b):
 (execOp ρ ⟨d,.binOp .neq t x y u,ty,pos,af,gd⟩).run P w=.ok (.value (.bool (a != b))) w:=by
 simp[execOp,hx,hy,go_sem,binOp,run_equal_bool t ht,bne]
theorem afH{t:TypeId}{x:Operand}{a:Bool}(hx:ρ x=.bool a):(execOp ρ ⟨d,.unOp .not t x,ty,pos,af,gd⟩).run P w=.ok (.value (.bool (!a))) w:=by
 simp[execOp,hx,Op.unary]
theorem afv{t:TypeId}{x:Operand}{k:IntKind}{a c:Int}(hx:ρ x=.int k a)(hc:k.wrap (0-a)=c):(execOp ρ ⟨d,.unOp .neg t x,ty,pos,af,gd⟩).run P w=.ok (.value (.int k c)) w:=by
 simp only[Int.zero_sub]at hc;simp[execOp,hx,Op.unary,Op.intArith,hc]
theorem fH{src dst:TypeId}{x:Operand}{k k':IntKind}{a c:Int}(hs:(P.underlying src).isSome=true)(hd:P.underlying dst=some (.int k'))(hx:ρ x=.int k a)(hc:k'.wrap a=c):
 (execOp ρ ⟨d,.convert src dst x,ty,pos,af,gd⟩).run P w=.ok (.value (.int k' c)) w:=by
 cases hq:P.underlying src with
 |none=>simp[hq]at hs
 |some q=>simp[execOp,hx,convert,run_underlying hq,run_underlying hd,Conv.intToInt,hc]
theorem mP{t:TypeId}{x:Operand}{A:Option Addr}{n c:Nat}(ht:(sliceOf P t).isSome=true)(hx:ρ x=.slice A n c):
 (execOp ρ ⟨d,.call ⟨.builtin .len,#[x],#[t]⟩,ty,pos,af,gd⟩).run P w=.ok (.value (.int .i64 n)) w:=by
 unfold sliceOf at ht;split at ht
 .rename_i e he;simp[execOp,hx,resolve,invoke,builtin,Builtin.len_,run_underlying he,goInt]
 .cases ht
theorem CV{x:Operand}{vs:Array Value}{i:Nat}{v:Value}(hx:ρ x=.tuple vs)(hv:vs[i]?=some v):
 (execOp ρ ⟨d,.extract x i,ty,pos,af,gd⟩).run P w=.ok (.value v) w:=by
 simp[execOp,hx,Instr.extract,hv]
theorem gU{t:TypeId}{x:Operand}{i off g o:Nat}(ht:uK P t i=some off)(hx:ρ x=.pointer (some ⟨g,o,none⟩)):
 (execOp ρ ⟨d,.fieldAddr t x i,ty,pos,af,gd⟩).run P w=.ok (.value (.pointer (some ⟨g,o+off,none⟩))) w:=by
 unfold uK at ht;split at ht
 .rename_i fs hf;split at ht
  .rename_i f hi;split at ht
   .cases ht
   .rename_i h0;split at ht
    .rename_i hso;simp only[qH]at ht;subst ht;cases hq:P.info? f.type with
     |none=>simp[hq]at hso
     |some j =>
      have hj:¬ j.size=0:=by simpa[hq]using h0
      simp[execOp,hx,Instr.fieldAt,run_underlying hf,hi,Instr.sureAddr,fieldPlace,sizeOf,typeInfo,hq,hj,Addr.add_lit]
    .cases ht
  .cases ht
 .cases ht
theorem qJ{t:TypeId}{n:Nat}(h:isRow P t n=true):(isAgg t).run P w=.ok true w:=by
 simp only[isRow,gX]at h;have h1:=h.1;unfold isAgg;cases hu:P.underlying t with
 |none=>simp[hu]at h1
 |some dd =>
  rw[Sem.run_bind,run_underlying hu w];cases dd<;>simp_all
theorem oV{t:TypeId}{n:Nat}(h:isRow P t n=true):(sizeOf t).run P w=.ok n w:=by
 simp only[isRow,gX,decide_eq_true_eq]at h;cases hq:P.info? t with
 |none=>simp[hq]at h
 |some i=>have:=h.2;simp[hq]at this;simp[sizeOf,typeInfo,hq,this]
theorem qK{t:TypeId}(h:jq P t=true):(isAgg t).run P w=.ok false w:=by
 simp only[jq,gX]at h;have h1:=h.1;unfold isAgg;cases hu:P.underlying t with
 |none=>simp[hu]at h1
 |some dd =>
  rw[Sem.run_bind,run_underlying hu w];cases dd<;>simp_all
theorem DZ{t:TypeId}(h:jq P t=true):(sizeOf t).run P w=.ok 1 w:=by
 simp only[jq,gX,decide_eq_true_eq]at h;cases hq:P.info? t with
 |none=>simp[hq]at h
 |some i=>have:=h.2;simp[hq]at this;simp[sizeOf,typeInfo,hq,this]
theorem iP{t:TypeId}{x:Operand}{a:Addr}{v:Value}(ht:jq P t=true)(hx:ρ x=.pointer (some a))(hc:w.cell? a=some v):
 (execOp ρ ⟨d,.load t x,ty,pos,af,gd⟩).run P w=.ok (.value v) w:=by
 simp[execOp,hx,Instr.loadAt,Instr.sureAddr,loadVar,qK ht,hc]
theorem CW{t:TypeId}{x:Operand}{a:Addr}{cs:Array Value}(ht:isRow P t cs.size=true)(hx:ρ x=.pointer (some a))(hc:∀j u,cs[j]?=some u->w.cell? (a.add j)=some u):
 (execOp ρ ⟨d,.load t x,ty,pos,af,gd⟩).run P w=.ok (.value (.agg cs)) w:=by
 have hl:=run_loadCells_list (P:=P) w a cs.toList (λj v hv=>hc j v (by simpa using hv));simp only[qbK,Array.toArray_toList]at hl;simp[execOp,hx,Instr.loadAt,Instr.sureAddr,loadVar,qJ ht,oV ht,hl]
theorem jZ{t T:TypeId}{x:Operand}{g o:Nat}{cs:Array Value}{v:Value}(ht:jq P t=true)(hx:ρ x=.pointer (some ⟨g,o,none⟩))(hg:w.heap[g]?=some (.cells cs T (0,0)))(hv:cs[o]?=some v):
 (execOp ρ ⟨d,.load t x,ty,pos,af,gd⟩).run P w=.ok (.value v) w :=
 iP ht hx ((cell_of_row w g o cs T _ hg).trans hv)
theorem BK{t T:TypeId}{x:Operand}{g n:Nat}{cs:Array Value}(ht:isRow P t n=true)(hx:ρ x=.pointer (some ⟨g,0,none⟩))(hg:w.heap[g]?=some (.cells cs T (0,0)))(hn:cs.size=n):
 (execOp ρ ⟨d,.load t x,ty,pos,af,gd⟩).run P w=.ok (.value (.agg cs)) w:=by
 subst hn;refine CW ht hx (λj u hu=>?_);rw[Addr.add_lit,uY,cell_of_row w g _ cs T _ hg];exact hu
theorem kJ{t e:TypeId}{s:Nat}{x y:Operand}{ad:Addr}{n c:Nat}{k:IntKind}{i:Int}(ht:sliceOf P t=some (e,s))(hx:ρ x=.slice (some ad) n c)(hy:ρ y=.int k i)(h0:0<=i)(h1:i<n):
 (execOp ρ ⟨d,.indexAddr t x y,ty,pos,af,gd⟩).run P w=.ok (.value (.pointer (some (ad.add (i.toNat * s))))) w:=by
 unfold sliceOf at ht;split at ht
 .rename_i e' he;cases hq:P.info? e' with
  |none=>simp[hq]at ht
  |some j =>
   simp only[hq,vI,qH,ou]at ht;obtain⟨rfl,rfl⟩:=ht;simp[execOp,hx,hy,Instr.indexAt,asIntOf,run_underlying he,h0,h1,sizeOf,typeInfo,hq]
 .cases ht
theorem MP{t:TypeId}{z:Array Value}(hz:zeroOf P t=some z):
 (execOp ρ ⟨d,.alloc t,ty,pos,af,gd⟩).run P w=.ok (.value (.pointer (some ⟨w.heap.size,0,none⟩))) (w.alloc (.cells z t)):=by
 unfold zeroOf at hz;cases hq:P.info? t with
 |none=>simp[hq]at hz
 |some i =>
  cases hzz:i.zero with
  |none=>simp[hq,hzz]at hz
  |some v =>
   simp[hq,hzz]at hz;subst hz;simp[execOp,Instr.alloc,zeroValue,typeInfo,hq,hzz,newVar,newRow]
theorem WZ{t:TypeId}{x:Operand}{v:Value}(hx:ρ x=v):
 (execOp ρ ⟨d,.box t x,ty,pos,af,gd⟩).run P w=.ok (.value (.pointer (some ⟨w.heap.size,0,none⟩))) (w.alloc (.cells v.cells t)):=by
 simp[execOp,hx,Instr.box,newVar,newRow]
def fE(P:Program)(f:FuncId):Bool:=match P.funcs[f]? with|some fn=>fn.body.isSome && !(fn.name == "runtime.NumGoroutine")|none=>false
theorem aaz{f:FuncId}{xs:Array Operand}{ts:Array TypeId}{vs:Array Value}(hf:fE P f=true)(hv:xs.map ρ=vs)(hfn:ρ (.func f)=.func (.func f) #[] #[]):
 (execOp ρ ⟨d,.call ⟨.value (.func f),xs,ts⟩,ty,pos,af,gd⟩).run P w=.ok (.enter f vs) w:=by
 unfold fE at hf;cases hq:P.funcs[f]? with
 |none=>simp[hq]at hf
 |some fn =>
  simp only[hq,gX,Jh]at hf;obtain⟨h1,h2⟩:=hf;have h2':¬ fn.name = "runtime.NumGoroutine" := by simpa using h2
  cases hb:fn.body with
  |none=>simp[hb]at h1
  |some c=>simp[execOp,resolve,hfn,Deferred.ofValue,invoke,callFunc,hq,h2',hb,hv]
end
def Ar(R:Value->World->Prop):Ending->World->Prop:=λe w=>∃v,e=.returned v/\R v w
section
variable {P:Program} {Q:Exit->Act->World->Prop} {a:Act} {w:World} {o:Oper} {K:Act->World->Prop} {N:Nat} {L:List (Nat × Value)} {w0:World} {S:List Bx} {X:List Nat}
theorem wX{d:Nat}{v:Value}{w':World}(hF:Frm N a L)(hd:o.dst=some d)(hlt:Nat.blt d N=true)(hr:(execOp a.eval o).run P w=.ok (.value v) w')
 (k:Frm N (a.put (some d) v) ((d,v)::L)->K (a.put (some d) v) w'):o.wp P a w K Q:=by
 have h:=k (hF.put (by simpa[I7]using hlt) v);unfold Oper.wp;rw[hr];simp only[Oper.upon,hd];exact h
theorem J3{d:Nat}{t:TypeId}{z:Array Value}{ty:TypeId}{pos:String}{af:Array Edge}{gd:Option (Nat×Bool)}(hF:Frm N a L)(hS:St w0 w S)(hlt:Nat.blt d N=true)(hz:zeroOf P t=some z)
 (k:∀g w',w.heap.size<=g->St w0 w' ((g,t,z)::S)->Ext w X w' (g::X)->Frm N (a.put (some d) (.pointer (some ⟨g,0,none⟩))) ((d,.pointer (some ⟨g,0,none⟩))::L)->K (a.put (some d) (.pointer (some ⟨g,0,none⟩))) w') :
 Oper.wp P ⟨some d,.alloc t,ty,pos,af,gd⟩ a w K Q :=
 wX hF rfl hlt (MP hz) λh=>k _ _ (jg _) (hS.alloc _ _) (Ext.alloc _ _ _) h
theorem VT{d:Nat}{t:TypeId}{x:Operand}{v:Value}{cs:Array Value}{ty:TypeId}{pos:String}{af:Array Edge}{gd:Option (Nat×Bool)}(hF:Frm N a L)(hS:St w0 w S)(hlt:Nat.blt d N=true)(hx:ev L x=some v)(hv:v.cells=cs)
 (k:∀g w',w.heap.size<=g->St w0 w' ((g,t,cs)::S)->Ext w X w' (g::X)->Frm N (a.put (some d) (.pointer (some ⟨g,0,none⟩))) ((d,.pointer (some ⟨g,0,none⟩))::L)->K (a.put (some d) (.pointer (some ⟨g,0,none⟩))) w') :
 Oper.wp P ⟨some d,.box t x,ty,pos,af,gd⟩ a w K Q:=by
 subst hv;exact wX hF rfl hlt (WZ (hF.ev hx)) λh=>k _ _ (jg _) (hS.alloc _ _) (Ext.alloc _ _ _) h
theorem lS{d:Nat}{f:FuncId}{xs:Array Operand}{ts:Array TypeId}{vs:Array Value}{R:Value->World->Prop}{ty:TypeId}{pos:String}{af:Array Edge}{gd:Option (Nat×Bool)}(hF:Frm N a L)(hlt:Nat.blt d N=true)
 (hf:fE P f=true) (hv:xs.map a.eval=vs) (hc:Calls P f vs w (Ar R)) (k:∀v w',R v w'->Frm N (a.put (some d) v) ((d,v)::L)->K (a.put (some d) v) w') :
 Oper.wp P ⟨some d,.call ⟨.value (.func f),xs,ts⟩,ty,pos,af,gd⟩ a w K Q:=by
 unfold Oper.wp;rw[aaz hf hv rfl];simp only[Oper.upon];refine hc.mono ?_;rintro e w' ⟨v,rfl,hR⟩;exact k v w' hR (hF.put (by simpa[I7]using hlt) v)
def splice(cs:Array Value)(o:Nat)(vs:Array Value):Array Value:=(cs.toList.take o++vs.toList++cs.toList.drop (o+vs.size)).toArray
theorem jm(w:World)(g:Nat)(cs:Array Value):w.grownBy (w.setRow g cs) (some g) :=
 ⟨rfl,rfl,rfl,η,λk _ hk=>setRow_other w g k _ (λe=>hk (by rw[e]))⟩
theorem qp{t T:TypeId}{g off:Nat}{v:Value}{vs cs:Array Value}(hv:v.cells=vs)(hsz:(P.info? t).map (·.size)=some vs.size)(h1:vs.toList.all Value.oneCell'=true)
 (hg:w.heap[g]?=some (.cells cs T (0,0))) (hfit:off+vs.size<=cs.size) :
 (Instr.storeAt t (.pointer (some ⟨g,off,none⟩)) v).run P w=.ok () (w.setRow g (splice cs off vs)):=by
 subst hv;cases hq:P.info? t with
 |none=>simp[hq]at hsz
 |some i =>
  have hi:i.size=v.cells.size:=by simpa[hq]using hsz
  have hst:=run_storeCells_at P g off T v.cells.toList 0 cs w hg (by simpa using hfit) (oH.1 h1);simp only[Nat.add_zero,qbK]at hst;simp[Instr.storeAt,Instr.sureAddr,storeVar,sizeOf,typeInfo,hq,hi,hst,splice]
theorem iT{t T:TypeId}{x y:Operand}{g off:Nat}{v:Value}{vs cs:Array Value}{ty:TypeId}{pos:String}{af:Array Edge}{gd:Option (Nat×Bool)}(hF:Frm N a L)(hS:St w0 w S)(j:Nat)(hj:S[j]?=some (g,T,cs))(hg:g∈X)
 (hx:ev L x=some (.pointer (some ⟨g,off,none⟩))) (hy:ev L y=some v) (hv:v.cells=vs) (hsz:(P.info? t).map (·.size)=some vs.size) (h1:vs.toList.all Value.oneCell'=true) (hfit:off+vs.size<=cs.size)
 (k:∀w',St w0 w' (S.set j (g,T,splice cs off vs))->Ext w X w' X->K a w') :
 Oper.wp P ⟨none,.store t x y,ty,pos,af,gd⟩ a w K Q:=by
 unfold Oper.wp
 have hr:(execOp a.eval ⟨none,.store t x y,ty,pos,af,gd⟩).run P w=.ok .skip (w.setRow g (splice cs off vs)):=by
  simp[execOp,hF.ev hx,hF.ev hy,qp hv hsz h1 (hS.get j hj) hfit]
 rw[hr];simp only[Oper.upon,Act.put];have hgr:=jm w g (splice cs off vs);exact k _ (hS.write j hj hgr (setRow_heap w g cs _ T _ (hS.get j hj))) (Ext.write hgr hg)
variable {ops:Array Oper} {rest:List Oper}
theorem st(hg:o.guard=none)(h:o.wp P a w (wpList P ops Q rest) Q):wpList P ops Q (o::rest) a w :=
 wpList_plain hg λ_ hK=>Oper.wp_mono hK h
theorem iW{d:Nat}{v:Value}{w':World}(hF:Frm N a L)(hg:o.guard=none)(hd:o.dst=some d)(hlt:Nat.blt d N=true)(hr:(execOp a.eval o).run P w=.ok (.value v) w')
 (k:∀a',Frm N a' ((d,v)::L)->wpList P ops Q rest a' w'):wpList P ops Q (o::rest) a w :=
 st hg (wX hF hd hlt hr λh=>k _ h)
def said(ops:Array Oper)(L:List (Nat×Value))(j:Nat):Option Bool :=
 match ops[j]? with
 |some o=>match o.dst with
  |some d=>match lk d L with
   |some (.bool b)=>some b
   |_=>none
  |none=>none
 |none=>none
theorem rU{j:Nat}{b:Bool}(hF:Frm N a L)(h:said ops L j=some b):yielded ops a.tmps j=some b:=by
 unfold said at h;split at h
 .rename_i o ho;split at h
  .rename_i d hd;split at h
   .rename_i c hl;simp only[qH]at h;subst h;have hg:=hF.get d _ hl;unfold yielded;rw[ho];simp only[Zz,hd];cases ht:a.tmps[d]? with
    |none=>simp[U5,ht,undef]at hg
    |some u=>simp[U5,ht]at hg;simp[hg]
   .cases h
  .cases h
 .cases h
theorem Qe{d j:Nat}{b c:Bool}(hF:Frm N a L)(hg:o.guard=some (j,b))(hd:o.dst=some d)(hlt:Nat.blt d N=true)(hs:said ops L j=some c)(hne:(c == b)=false)
 (k:∀a',Frm N a' ((d,undef)::L)->wpList P ops Q rest a' w):wpList P ops Q (o::rest) a w:=by
 refine wpList_skip ?_ ?_
 .simp only[Region.wanted,hg,rU hF hs];cases c<;>cases b<;>first|rfl|cases hne
 .rw[hd];exact k _ (hF.put (by simpa[I7]using hlt) undef)
theorem stg{j:Nat}{b:Bool}(hF:Frm N a L)(hg:o.guard=some (j,b))(hs:said ops L j=some b)(h:o.wp P a w (wpList P ops Q rest) Q):wpList P ops Q (o::rest) a w:=by
 unfold wpList;rw[if_pos (by simp[Region.wanted,hg,rU hF hs])];exact .inl h
theorem Pv{d j:Nat}{b:Bool}{v:Value}{w':World}(hF:Frm N a L)(hg:o.guard=some (j,b))(hs:said ops L j=some b)(hd:o.dst=some d)(hlt:Nat.blt d N=true)(hr:(execOp a.eval o).run P w=.ok (.value v) w')
 (k:∀a',Frm N a' ((d,v)::L)->wpList P ops Q rest a' w'):wpList P ops Q (o::rest) a w :=
 stg hF hg hs (wX hF hd hlt hr λh=>k _ h)
theorem qh(h:∀a',Frm N a' L->K a' w):Frm N a L->K a w:=h a
variable {x y c:Code} {K':Act->World->Prop}
theorem bI(h:x.wp P (Exit.then (y.wp P Q) Q) a w):(Code.seq x y).wp P Q a w:=wp_seq h
theorem WX(K:Act->World->Prop)(hx:x.wp P (Exit.then K Q) a w)(hy:∀a w,K a w->y.wp P Q a w):(Code.seq x y).wp P Q a w :=
 wp_seq (Code.wp_mono (λe a w q=>by cases e<;>first|exact hy _ _ q|exact q) hx)
theorem bK{id:Nat}{l:List Oper}(h:wpList P l.toArray Q l a w):(Code.region id l.toArray false).wp P Q a w:=wp_region_lit h
theorem aV(h:K' a w):wpList P ops (Exit.then K' Q) [] a w:=h
theorem jM(h:Q .normal a w):wpList P ops Q [] a w:=h
theorem iY{t:Nat}{b:Bool}(hF:Frm N a L)(hc:lk t L=some (.bool b))(ht:b=true->x.wp P Q a w)(hf:b=false->y.wp P Q a w):(Code.cond (.tmp t) x y).wp P Q a w :=
 wp_cond_split (hF.get t _ hc) ht hf
theorem jo(h:Q .normal a w):Code.skip.wp P Q a w:=wp_skip h
theorem tV(h:Q .ret a w):Code.ret.wp P Q a w:=wp_ret h
theorem sF{id:Nat}(h:Q (.exit id) a w):(Code.exit id).wp P Q a w:=wp_exit h
theorem iK{id:Nat}(h:c.wp P (Exit.inBlock id Q) a w):(Code.block id c).wp P Q a w:=wp_block h
theorem dW(h:K' a w):Exit.then K' Q .normal a w:=h
theorem XI(h:Q .ret a w):Exit.then K' Q .ret a w:=h
theorem rZ{i:Nat}(h:Q (.exit i) a w):Exit.then K' Q (.exit i) a w:=h
theorem uq{id:Nat}(h:Q .normal a w):Exit.inBlock id Q .normal a w:=h
theorem alC{id:Nat}(h:Q .ret a w):Exit.inBlock id Q .ret a w:=h
theorem EX{id:Nat}(h:Q .normal a w):Exit.inBlock id Q (.exit id) a w:=by simpa[Exit.inBlock]using h
theorem afg{id i:Nat}(hne:Nat.beq i id=false)(h:Q (.exit i) a w):Exit.inBlock id Q (.exit i) a w:=by
 have:i≠id:=λe=>by subst e;simp at hne
 simpa[Exit.inBlock,this]using h
theorem uQ(I:Nat->Act->World->Prop)(h0:∃n,I n a w)(round:∀n a w,I n a w->c.wp P (Exit.then (λa' w'=>∃m,m<n/\I m a' w') Q) a w):(Code.loop c).wp P Q a w:=by
 intro b k cs
 have key:∀n a w,I n a w->∃e a' w',Q e a' w'/\Arrives P (lone (b.at a (.code c :: .inLoop c::k)) cs w) b k cs e a' w':=by
  intro n;induction n using Nat.strongRecOn with
  |_ n ih =>
   intro a w hI;obtain⟨e,a₁,w₁,hq,harr⟩:=round n a w hI b (.inLoop c::k) cs;cases e with
   |normal =>
    obtain⟨m,hlt,hI₁⟩:=hq;obtain⟨e₂,a₂,w₂,hq₂,harr₂⟩:=ih m hlt a₁ w₁ hI₁;exact⟨e₂,a₂,w₂,hq₂,.of_steps (Steps.trans harr (.one step_inLoop)) harr₂⟩
   |exit id=>exact⟨_,a₁,w₁,hq,.pass (x:=.inLoop c) rfl (λ_ _ => .inl η) harr⟩
   |goto l=>exact⟨_,a₁,w₁,hq,.pass (x:=.inLoop c) rfl (λ_ _ => .inl η) harr⟩
   |ret=>exact⟨_,a₁,w₁,hq,.pass (x:=.inLoop c) rfl (λ_ _ => .inl η) harr⟩
   |panic ch=>exact⟨_,a₁,w₁,hq,.pass (x:=.inLoop c) rfl (λ_ _ => .inl η) harr⟩
   |outgrown=>exact⟨_,a₁,w₁,hq,.pass (x:=.inLoop c) rfl (λ_ _ => .inl η) harr⟩
 obtain⟨n0,h0⟩:=h0;obtain⟨e,a',w',hq,harr⟩:=key n0 a w h0;exact⟨e,a',w',hq,.of_steps (.one step_loop) harr⟩
def uw:Nat->List Value->List (Nat×Value)
 |_,[]=>[]
 |i,v::r=>(i,v)::uw (i+1) r
theorem RG:∀(vs:List Value) (i t:Nat) (v:Value),lk t (uw i vs)=some v->i<=t/\vs[t-i]?=some v
 |[],_,_,_,h=>by simp[uw,lk]at h
 |u::r,i,t,v,h=>by
  simp only[uw,lk]at h
  by_cases e:i=t
  .subst e;simp at h;simp[h]
  .rw[gI e]at h;obtain⟨h1,h2⟩:=RG r (i+1) t v h;refine⟨ω, ?_⟩;rw[show t-i=(t-(i+1))+1 by omega];simpa using h2
theorem enter{f:FuncId}{fn:Func}{vs:List Value}{R:Ending->World->Prop}(hf:P.funcs[f]?=some fn)(hb:fn.body=some c)(hn:fn.ntmps=N)(hle:Nat.ble vs.length N=true)
 (h:∀a,Frm N a (uw 0 vs)->c.wp P (bodyPost P fn R) a w):Calls P f vs.toArray w R:=by
 refine calls_of_wp hf hb (h _ ⟨?_,rfl,λt v hv=>?_⟩)
 .have:vs.length<=N:=by simpa[Nat.ble_eq]using hle
  simp[hn];omega
 .obtain⟨_,h2⟩:=RG vs 0 t v hv;simp only[Nat.sub_zero]at h2;have hlt:t<vs.length:=(qG.1 h2).1;have h3:vs[t]=v:=(qG.1 h2).2;simp[U5,Array.getElem?_append,hlt,h3]
def iw(tmps:Array Value):ResultVar->Sem Value
 |.tmp t=>pure (tmps.getD t undef)
 |.cell a t=>do loadVar t (<-asAddr (tmps.getD a undef))
theorem kP{t:Nat}{v:Value}(hF:Frm N a L)(h:lk t L=some v):(iw a.tmps (.tmp t)).run P w=.ok v w:=by
 simp only[iw];rw[hF.get t v h];rfl
theorem Kt{t g n:Nat}{T T':TypeId}{cs:Array Value}(hF:Frm N a L)(h:lk t L=some (.pointer (some ⟨g,0,none⟩)))(hT:isRow P T n=true)(hg:w.heap[g]?=some (.cells cs T' (0,0)))(hn:cs.size=n):
 (iw a.tmps (.cell t T)).run P w=.ok (.agg cs) w:=by
 simp only[iw];rw[hF.get t _ h];have:=BK (P:=P) (ρ:=λ_ => .pointer (some ⟨g,0,none⟩)) (d:=none) (ty:=0) (pos := "") (af:=#[]) (gd:=none) (x:=.tmp 0) hT rfl hg hn;simp only[execOp,Instr.loadAt,Instr.sureAddr,Sem.run_bind,Sem.run_pure,Result.andThen_ok]at this;simp only[asAddr,Sem.run_bind,Sem.run_pure,Result.andThen_ok];cases hl:(loadVar T ⟨g,0,none⟩).run P w with
 |ok u w1=>rw[hl]at this;simp at this;simp[this]
 |halt u w1=>rw[hl]at this;simp at this
theorem jV{fn:Func}(w:World):(results fn a.tmps).run P w=(fn.results.mapM (iw a.tmps) >>=λvs=>pure (if h:vs.size=1 then vs[0]else .tuple vs)).run P w:=by
 unfold results;congr 1
theorem Xj{fn:Func}{r:ResultVar}{v:Value}{R:Ending->World->Prop}(hF:Frm N a L)(hr:fn.results = #[r])(h1:(iw a.tmps r).run P w=.ok v w)(h:R (.returned v) w):bodyPost P fn R .ret a w :=
 ⟨hF.defers,v,by rw[jV,hr];simp[h1],h⟩
theorem adZ{fn:Func}{r s:ResultVar}{v u:Value}{R:Ending->World->Prop}(hF:Frm N a L)(hr:fn.results = #[r,s])(h1:(iw a.tmps r).run P w=.ok v w)(h2:(iw a.tmps s).run P w=.ok u w)(h:R (.returned (.tuple #[v,u])) w):bodyPost P fn R .ret a w :=
 ⟨hF.defers,_,by rw[jV,hr];simp[h1,h2],h⟩
theorem ajT{fn:Func}{R:Ending->World->Prop}(hF:Frm N a L)(hr:fn.results = #[])(h:R (.returned (.tuple #[])) w):bodyPost P fn R .normal a w :=
 ⟨hF.defers,_,by rw[jV,hr];simp,h⟩
end
theorem args1{a:Act}{x:Operand}{u:Value}(h:a.eval x=u):#[x].map a.eval = #[u]:=by simp[h]
theorem args2{a:Act}{x y:Operand}{u v:Value}(h:a.eval x=u)(k:a.eval y=v):#[x,y].map a.eval = #[u,v]:=by simp[h,k]
theorem agc{a:Act}{x y z:Operand}{u v t:Value}(h:a.eval x=u)(k:a.eval y=v)(m:a.eval z=t):#[x,y,z].map a.eval = #[u,v,t]:=by simp[h,k,m]
theorem dH{L:List (Nat×Value)}{t:Nat}{k:IntKind}{a b:Int}(h:lk t L=some (.int k a))(e:a=b):lk t L=some (.int k b):=by rw[h,e]
theorem bG{a:Int}(h1 : -9223372036854775808<=a)(h2:a<=9223372036854775807):IntKind.i64.wrap a=a:=by rw[IntKind.wrap_i64];omega
theorem dO{a:Int}(h1:0<=a)(h2:a<=4294967295):IntKind.u32.wrap a=a:=by rw[IntKind.wrap_u32];omega
theorem wu64{a:Int}(h1:0<=a)(h2:a<=18446744073709551615):IntKind.u64.wrap a=a:=by rw[IntKind.wrap_u64];omega
def u32(x:Nat):Value:=.int .u32 (x:Int)
def us(l:List Nat):List Value:=l.map u32
theorem mW{l:List Nat}{i:Nat}(h:i<l.length):(us l)[i]?=some (.int .u32 (l.getD i 0:Nat)):=by
 simp[us,u32,pW h]
theorem Yk(l:List Nat):∀u∈us l,u.oneCell'=true:=by
 intro u hu;obtain⟨x,_,rfl⟩:=iV.1 hu;rfl
@[simp] theorem uX(l:List Nat):(us l).length=l.length:=by simp [us]
structure UC (w:World) (X:List Nat) (A:Option Addr) (c:Nat) (l:List Nat):Prop where
 cl:Cl w X A (us l)
 len:l.length<=c
 cap:c<=9223372036854775807
def UL(w:World)(X:List Nat)(v:Value)(l:List Nat):Prop:=∃A n c,v=.slice A n c/\n=l.length/\UC w X A c l
theorem UC.ext{w w':World}{X X':List Nat}{A:Option Addr}{c:Nat}{l:List Nat}(h:UC w X A c l)(e:Ext w X w' X'):UC w' X' A c l:=⟨h.cl.ext e,h.len,h.cap⟩
theorem UL.ext{w w':World}{X X':List Nat}{v:Value}{l:List Nat}(h:UL w X v l)(e:Ext w X w' X'):UL w' X' v l:=by
 obtain⟨A,n,c,rfl,hn,h⟩:=h;exact⟨A,n,c,rfl,hn,h.ext e⟩
theorem UL.fin{w:World}{X X':List Nat}{v:Value}{L l:List Nat}(h:UL w X v L)(e:L=l)(hx:∀x∈X',x∈X):UL w X' v l:=by
 subst e;exact h.ext (Ext.drop hx)
theorem UL.nil_(w:World)(X:List Nat):UL w X (.slice none 0 0) []:=⟨none,0,0,rfl,rfl,⟨Cl.nil _ _ _,jg _,ω⟩⟩
section
variable {P:Program} {ρ:Operand->Value} {w:World} {d:Option Tmp} {ty:TypeId} {pos:String} {af:Array Edge} {gd:Option (Nat × Bool)}
theorem mZ{t e:TypeId}{x y:Operand}{A:Option Addr}{ad:Addr}{n c:Nat}{k:IntKind}{i:Int}{j:Nat}(ht:sliceOf P t=some (e,1))(hx:ρ x=.slice A n c)(hA:A=some ad)(hy:ρ y=.int k i)(hi:i=(j:Nat))(h1:j<n):
 (execOp ρ ⟨d,.indexAddr t x y,ty,pos,af,gd⟩).run P w=.ok (.value (.pointer (some (ad.add j)))) w:=by
 subst hA;subst hi;have:=kJ (w:=w) (d:=d) (ty:=ty) (pos:=pos) (af:=af) (gd:=gd) ht hx hy ω ω;simpa using this
theorem jS{t e:TypeId}{s:Nat}(ht:sliceOf P t=some (e,s)){A:Option Addr}{n c:Nat}{lo hi mx:Option Value}{l h m:Nat}
 (hb:(Instr.sliceBounds true n c lo hi mx).run P w=.ok (l,h,m) w):(Instr.sliceAt t (.slice A n c) lo hi mx).run P w=.ok (sliced A l h m s) w:=by
 unfold sliceOf at ht;split at ht
 .rename_i e' he;cases hq:P.info? e' with
  |none=>simp[hq]at ht
  |some j =>
   simp only[hq,vI,qH,ou]at ht;obtain⟨rfl,rfl⟩:=ht;simp[Instr.sliceAt,Instr.slice,run_underlying he,hb,sizeOf,typeInfo,hq,sliced]
 .cases ht
theorem map_add_zero(A:Option Addr):A.map (·.add 0)=A:=by cases A<;>simp[Addr.add]
theorem oZ{t e:TypeId}{s:Nat}{x y:Operand}{A:Option Addr}{n c:Nat}{k:IntKind}{i:Int}{j:Nat}(ht:sliceOf P t=some (e,s))(hx:ρ x=.slice A n c)(hy:ρ y=.int k i)(hi:i=(j:Nat))(h1:j<=c):
 (execOp ρ ⟨d,.slice t x none (some y) none,ty,pos,af,gd⟩).run P w=.ok (.value (.slice A j c)) w:=by
 subst hi
 have hb:(Instr.sliceBounds true n c none (some (.int k (j:Int))) none).run P w=.ok (0,j,c) w:=by
  simp[Instr.sliceBounds,run_sliceBound,h1]
 simp[execOp,hx,hy,jS ht hb,sliced,map_add_zero]
theorem JD{t e:TypeId}{x y z:Operand}{A:Option Addr}{n c:Nat}{k k':IntKind}{i i':Int}{j m:Nat}(ht:sliceOf P t=some (e,1))(hx:ρ x=.slice A n c)(hy:ρ y=.int k i)(hz:ρ z=.int k' i')(hi:i=(j:Nat))(hi':i'=(m:Nat))(h1:j<=m)(h2:m<=c):
 (execOp ρ ⟨d,.slice t x (some y) (some z) none,ty,pos,af,gd⟩).run P w=.ok (.value (.slice (if c=j then A else A.map (·.add j)) (m-j) (c-j))) w:=by
 subst hi hi'
 have hb:(Instr.sliceBounds true n c (some (.int k (j:Int))) (some (.int k' (m:Int))) none).run P w=.ok (j,m,c) w:=by
  simp[Instr.sliceBounds,run_sliceBound,h1,h2]
 simp[execOp,hx,hy,hz,jS ht hb,sliced]
end
def Uc(l:List Oper):Bool:=(List.range l.length).all λi=>match l[i]? with
 |some o=>o.after.toList.all λe=>!(Region.binds .any e)||Nat.blt e.on i
 |none=>true
theorem acz{l:List Oper}(h:Uc l=true){i:Nat}{o:Oper}(ho:l[i]?=some o){e:Edge}(he:e∈o.after)(hb:Region.binds .any e=true):e.on<i:=by
 have hi:i<l.length:=(qG.1 ho).1;have h1:=oH.1 h i (by simpa using hi);simp only[ho]at h1;have h2:=oH.1 h1 e (by simpa using he);simpa[hb,I7]using h2
theorem count_set:∀(l:List Bool) (i:Nat),l[i]?=some false->(l.set i true).count false+1=l.count false
 |[],i,h=>by simp at h
 |b::r,0,h=>by
  have:b=false:=by simpa using h
  subst this;simp
 |b::r,i+1,h=>by
  have:=count_set r i (by simpa using h);simp only[List.set_cons_succ,List.count_cons];omega
section
variable {P:Program} {Q:Exit->Act->World->Prop} {l:List Oper}
theorem Fj{id:Nat}{a:Act}{w:World}(hm:P.follows .mixedOrders=true)(hac:Uc l=true)(J:(Nat->Bool)->Act->World->Prop)(h0:J (λ_=>false) a w.drew)
 (hst:∀ls a w i o,J ls a w->l[i]?=some o->ls i=false->(∀e∈o.after,Region.binds .any e=true->ls e.on=true)->wpOp P l.toArray Q i (J (λj=>Nat.beq j i||ls j)) a w)
 (hend:∀ls a w,J ls a w->(∀i,i<l.length->ls i=true)->Q .normal a w):(Code.region id l.toArray true).wp P Q a w:=by
 refine wp_region_any hm ?_
 have key:∀(fuel:Nat) (listed:Array Bool) (a:Act) (w:World),listed.size=l.length->listed.toList.count false<=fuel->J (λi=>listed.getD i false) a w->wpAny P .any l.toArray Q fuel listed a w:=by
  intro fuel;induction fuel with
  |zero =>
   intro listed a w hs hc hJ
   have hall:∀i,i<l.length->listed.getD i false=true:=by
    intro i hi;have hlt:i<listed.size:=ω
    cases hb:listed[i]with
    |true=>simp[Array.getD,hlt,hb]
    |false =>
     have hm:false∈listed.toList:=by rw[<-hb];simp
     have:=List.count_pos_iff.2 hm;omega
   refine⟨?_,hend _ _ _ hJ hall⟩;simp only[Region.ready,Yx];refine List.filter_eq_nil_iff.2 λi hi=>?_
   have hil:i<l.length:=by simpa using hi
   have:=hall i hil;have hlt:i<listed.size:=ω
   simp only[Array.getD,hlt,dif_pos]at this ⊢;have h2:listed[i]=true:=this;simp[h2]
  |succ fuel ih =>
   intro listed a w hs hc hJ;refine⟨λhr=>hend _ _ _ hJ ?_,λi hi=>?_⟩
   .intro i;induction i using Nat.strongRecOn with
    |_ i ihi =>
     intro hil;have hlt:i<listed.size:=ω
     cases hb:listed[i]with
     |true=>simp[Array.getD,hlt,hb]
     |false =>
      exfalso
      have hmem:i∈Region.ready .any l.toArray listed:=by
       simp only[Region.ready,Yx];refine yS.2 ⟨by simpa using hil, ?_⟩;have ho:l[i]?=some l[i]:=pW hil;simp only[Array.getD,hlt,dif_pos,TM,ho,vI,Bd];have e0:listed.getInternal i hlt=false:=hb;rw[e0];simp only[Bool.not_false,ZC,Array.all_eq_true'];intro e he;cases hbd:Region.binds .any e with
       |false=>rfl
       |true =>
        have hlt':=acz hac ho he hbd;have:=ihi e.on hlt' ω;simp only[Array.getD]at this;simpa using this
      rw[hr]at hmem;cases hmem
   .simp only[Region.ready,Yx]at hi;obtain⟨hir,hcond⟩:=yS.1 hi;have hil:i<l.length:=by simpa using hir
    have hlt:i<listed.size:=ω
    have ho:l[i]?=some l[i]:=pW hil;simp only[gX,TM,ho,vI,Bd]at hcond
    have hfalse:listed[i]=false:=by
     have:=hcond.1;simpa[Array.getD,hlt]using this
    have hpre:∀e∈(l[i]).after,Region.binds .any e=true->listed.getD e.on false=true:=by
     intro e he hb;have:=Array.all_eq_true'.1 hcond.2 e he;simpa[hb]using this
    have hJi:=hst _ a w i _ hJ ho (by simp[Array.getD,hlt,hfalse]) hpre;refine wpOp_mono (λa' w' hJ'=>?_) hJi;refine ih _ a' w' (by simpa using hs) ?_ ?_
    .have h1:listed.toList[i]?=some false:=by simp[hlt,hfalse]
     have h2:=count_set listed.toList i h1;rw[Array.toList_setIfInBounds];omega
    .have e:(λj=>(listed.setIfInBounds i true).getD j false)=λj=>Nat.beq j i||listed.getD j false:=by
      funext j
      by_cases hj:j=i
      .subst hj;simp[Array.getD,hlt]
      .rw[gI hj];simp only[eX,U5];rw[Array.getElem?_setIfInBounds_ne (λe=>hj e.symm)]
     rw[e];exact hJ'
 refine key _ _ _ _ η ?_ ?_
 .simp
 .have e:(λi=>(Array.replicate l.toArray.size false).getD i false)=λ_=>false:=by
   funext i
   simp only[U5,Array.getElem?_replicate];split<;>rfl
  rw[e];exact h0
def pre(o:Oper):List Nat:=o.after.toList.filterMap λe=>if Region.binds .any e then some e.on else none
theorem aal{o:Oper}{j:Nat}:j∈pre o↔∃e∈o.after,Region.binds .any e=true/\e.on=j:=by
 simp only[pre,List.mem_filterMap];constructor
 .rintro ⟨e,he,h⟩;split at h
  .rename_i hb;exact⟨e,by simpa using he,hb,by simpa using h⟩
  .cases h
 .rintro ⟨e,he,hb,rfl⟩;exact⟨e,by simpa using he,by simp[hb]⟩
def OpsOk(f:Nat->Oper->Prop):Nat->List Oper->Prop
 |_,[]=>True
 |i,o::r=>f i o/\OpsOk f (i+1) r
theorem OpsOk.at_{f:Nat->Oper->Prop}:∀{l:List Oper} {k:Nat},OpsOk f k l->∀{i:Nat} {o:Oper},l[i]?=some o->f (k+i) o
 |[],_,_,i,o,h=>by simp at h
 |_::r,k,hk,0,o,h=>by simp at h;subst h;exact hk.1
 |_::r,k,hk,i+1,o,h=>by
  have:=OpsOk.at_ hk.2 (i:=i) (o:=o) (by simpa using h)
  rwa [show k+1+i=k+(i+1) by omega]at this
def QZ(N:Nat)(l:List Oper)(L0:List (Nat×Value)):Bool :=
 (List.range l.length).all λi=>match(l[i]?).bind (·.dst)with
  |some d=>Nat.blt d N&&(lk d L0).isNone&&(List.range l.length).all λj=>Nat.beq i j ||(match(l[j]?).bind (·.dst)with|some e=>!(Nat.beq d e)|none=>true)
  |none=>true
def Cok(l:List Oper)(ls:Nat->Bool)(a:Act)(C:List (Option Value)):Prop :=
 ∀i o d v,l[i]?=some o->o.dst=some d->C[i]?=some (some v)->ls i=true->a.tmps.getD d undef=v
theorem Frm.put_other{N:Nat}{a:Act}{L:List (Nat×Value)}(h:Frm N a L){d:Nat}(v:Value)(hd:(lk d L).isNone=true):Frm N (a.put (some d) v) L:=by
 refine⟨by simp[Act.put,h.size],h.defers,λt u hu=>?_⟩;have hne:d≠t:=by rintro rfl;rw[hu]at hd;cases hd
 have:=h.get t u hu;simp only[Act.put,U5]at this ⊢;rw[Array.getElem?_setIfInBounds_ne hne];exact this
theorem iH{a:Act}{d t:Nat}(v:Value)(h:d≠t):(a.put (some d) v).tmps.getD t undef=a.tmps.getD t undef:=by
 simp only[Act.put,U5];rw[Array.getElem?_setIfInBounds_ne h]
theorem jG{a:Act}{d N:Nat}(v:Value)(hs:a.tmps.size=N)(h:d<N):(a.put (some d) v).tmps.getD d undef=v:=by
 have:d<a.tmps.size:=ω
 simp[Act.put,this]
structure Before (l:List Oper) (C:List (Option Value)) (acts:List Nat) (done:List Nat) (i:Nat) (o:Oper) (a:Act):Prop where
 val:∀j o' d v,(pre o).elem j=true->l[j]?=some o'->o'.dst=some d->C[j]?=some (some v)->a.tmps.getD d undef=v
 have_:∀j,acts.elem j=true->(pre o).elem j=true->done.elem j=true
 not_:∀j,acts.elem j=true->∀o',l[j]?=some o'->(pre o').elem i=true->done.elem j=false
theorem drawn{id N:Nat}{a:Act}{w:World}{L0:List (Nat×Value)}(C:List (Option Value))(acts:List Nat)(A:Nat->List Nat)(Φ:Nat->Act->World->Prop)(hm:P.follows .mixedOrders=true)(hac:Uc l=true)(hsl:QZ N l L0=true)
 (hacts:acts.all (λi=>Nat.blt i l.length)=true) (hF:Frm N a L0) (h0:(acts.all λi=>!((A 0).elem i))=true/\Φ 0 a w.drew)
 (hput:∀s a w i o d v,l[i]?=some o->o.dst=some d->acts.elem i=false->Φ s a w->Φ s (a.put (some d) v) w)
 (hops:OpsOk (λi o =>
  (acts.elem i=false/\∃d v,o.dst=some d/\C[i]?=some (some v)/\∀s a w,Φ s a w->Frm N a L0->Before l C acts (A s) i o a->∀K:Act->World->Prop,K (a.put (some d) v) w->wpOp P l.toArray Q i K a w) \/
  (acts.elem i=true/\∀s a w,Φ s a w->Frm N a L0->Before l C acts (A s) i o a->(A s).elem i=false ->
   wpOp P l.toArray Q i (λa' w'=>∃s',(acts.all λj=>(A s').elem j ==(Nat.beq j i ||(A s).elem j))=true/\Φ s' a' w'/\∃v,a'=a.put o.dst v/\∀u,C[i]?=some (some u)->v=u) a w)) 0 l)
 (hend:∀s a w,(acts.all λi=>(A s).elem i)=true->Φ s a w->Frm N a L0->(∀(i:Nat) (o:Oper) (d:Nat) (v:Value),l[i]?=some o->o.dst=some d->C[i]?=some (some v)->a.tmps.getD d undef=v)->Q .normal a w):(Code.region id l.toArray true).wp P Q a w:=by
 have hslot:∀(i:Nat) (o:Oper) (d:Nat),l[i]?=some o->o.dst=some d->d<N/\(lk d L0).isNone=true/\∀(j:Nat) (o':Oper) (e:Nat),l[j]?=some o'->o'.dst=some e->j≠i->d≠e:=by
  intro i o d ho hd;have hi:i<l.length:=(qG.1 ho).1;have h1:=oH.1 hsl i (by simpa using hi);simp only[ho,Zz,hd,gX]at h1;refine⟨by simpa[I7]using h1.1.1,h1.1.2,λj o' e ho' hd' hne=>?_⟩;have hj:j<l.length:=(qG.1 ho').1;have:=oH.1 h1.2 j (by simpa using hj);rw[gI (λe=>hne e.symm)]at this;simp only[ho',Zz,hd',eX]at this;intro e;subst e;simp at this
 refine Fj hm hac (λls a w=>Frm N a L0/\Cok l ls a C/\(∀(j:Nat) (o:Oper),l[j]?=some o->ls j=true->∀k∈pre o,ls k=true)/\∃s,(∀i∈acts,ls i=(A s).elem i)/\Φ s a w) ?_ ?_ ?_
 .obtain⟨hs,hΦ⟩:=h0;exact⟨hF,λ_ _ _ _ _ _ _ hq=>absurd hq η,λ_ _ _ hq=>absurd hq η,0,λi hi=>by have:=oH.1 hs i hi;simpa using this,hΦ⟩
 .rintro ls a w i o ⟨hF,hC,hcl,s,hs,hΦ⟩ ho hi hpre
  have hpre':∀k∈pre o,ls k=true:=λk hk=>by
   obtain⟨e,he,hb,rfl⟩:=aal.1 hk;exact hpre e he hb
  have hbef:Before l C acts (A s) i o a:=by
   refine⟨λj o' d v hp ho' hd' hc=>hC j o' d v ho' hd' hc (hpre' j (by simpa using hp)),λj hj hp=>?_,λj hj o' ho' hp=>?_⟩
   .rw[<-hs j (by simpa using hj)];exact hpre' j (by simpa using hp)
   .have hp:i∈pre o':=by simpa using hp
    rw[<-hs j (by simpa using hj)];cases hl:ls j with
    |false=>rfl
    |true=>have:=hcl j o' ho' hl i hp;rw[hi]at this;cases this
  have hcl':∀(j:Nat) (o':Oper),l[j]?=some o'->(Nat.beq j i||ls j)=true->∀k∈pre o',(Nat.beq k i||ls k)=true:=by
   intro j o' ho' hl k hk
   by_cases hji:j=i
   .subst hji;rw[ho]at ho';cases ho';simp[hpre' k hk]
   .rw[gI hji]at hl;simp[hcl j o' ho' (by simpa using hl) k hk]
  have hCok:∀v,(∀u,C[i]?=some (some u)->v=u)->Cok l (λj=>Nat.beq j i||ls j) (a.put o.dst v) C:=by
   intro v hv j o' d u ho' hd' hc hl
   by_cases hji:j=i
   .subst hji;rw[ho]at ho';cases ho';rw[hd',jG v hF.size (hslot _ _ _ ho hd').1];exact hv u hc
   .have hold:=hC j o' d u ho' hd' hc (by simpa[gI hji]using hl);cases hd:o.dst with
    |none=>exact hold
    |some e =>
     rw[iH v ((hslot i o e ho hd).2.2 j o' d ho' hd' hji)];exact hold
  have hFput:∀v,Frm N (a.put o.dst v) L0:=by
   intro v;cases hd:o.dst with
   |none=>exact hF
   |some e=>exact hF.put_other v (hslot i o e ho hd).2.1
  have hop:=hops.at_ ho;simp only[uY]at hop;rcases hop with⟨hna,d,v,hd,hmem,hrun⟩|⟨hact,hrun⟩
  .refine hrun s a w hΦ hF hbef _ ?_;have h1:=hCok v (λu hu=>by rw[hmem]at hu;cases hu;rfl);have h2:=hFput v;rw[hd]at h1 h2;refine⟨h2,h1,hcl',s,λj hj=>?_,hput s a w i o d v ho hd hna hΦ⟩;have hji:j≠i:=λe=>by subst e;simp at hna;exact hna hj
   show(Nat.beq j i||ls j)=_;rw[gI hji];exact hs j hj
  .have h:=hrun s a w hΦ hF hbef (by rw[<-hs i (by simpa using hact)];exact hi);refine wpOp_mono (λa' w' hk=>?_) h;obtain⟨s',hs',hΦ',v,rfl,hv⟩:=hk;refine⟨hFput v,hCok v hv,hcl',s',λj hj=>?_,hΦ'⟩;show(Nat.beq j i||ls j)=_;rw[hs j hj];have:=oH.1 hs' j hj;exact(beq_iff_eq.1 this).symm
 .rintro ls a w ⟨hF,hC,hcl,s,hs,hΦ⟩ hall;refine hend s a w (oH.2 λi hi=>?_) hΦ hF (λi o d v ho hd hc=>hC i o d v ho hd hc (hall i (qG.1 ho).1));rw[<-hs i hi];exact hall i (by simpa[I7]using oH.1 hacts i hi)
theorem wop{i:Nat}{o:Oper}{a:Act}{w:World}{K:Act->World->Prop}(ho:l[i]?=some o)(hg:o.guard=none)(h:o.wp P a w K Q):wpOp P l.toArray Q i K a w:=by
 unfold wpOp;simp only[TM,ho];rw[if_pos (by simp[Region.wanted,hg])];exact .inl h
theorem ak1{i j:Nat}{b:Bool}{o:Oper}{a:Act}{w:World}{K:Act->World->Prop}{N:Nat}{L:List (Nat×Value)}(hF:Frm N a L)(ho:l[i]?=some o)(hg:o.guard=some (j,b))(hs:said l.toArray L j=some b)(h:o.wp P a w K Q):wpOp P l.toArray Q i K a w:=by
 unfold wpOp;simp only[TM,ho];rw[if_pos (by simp[Region.wanted,hg,rU hF hs])];exact .inl h
theorem dG{i d:Nat}{o:Oper}{a:Act}{w:World}{K:Act->World->Prop}{v:Value}(ho:l[i]?=some o)(hg:o.guard=none)(hd:o.dst=some d)(hr:(execOp a.eval o).run P w=.ok (.value v) w)(hK:K (a.put (some d) v) w):wpOp P l.toArray Q i K a w:=by
 refine wop ho hg ?_;unfold Oper.wp;rw[hr];simp only[Oper.upon,hd];exact hK
theorem gZ{i j d:Nat}{b:Bool}{o:Oper}{a:Act}{w:World}{K:Act->World->Prop}{v:Value}{N:Nat}{L:List (Nat×Value)}(hF:Frm N a L)(ho:l[i]?=some o)(hg:o.guard=some (j,b))(hs:said l.toArray L j=some b)(hd:o.dst=some d)(hr:(execOp a.eval o).run P w=.ok (.value v) w)(hK:K (a.put (some d) v) w):wpOp P l.toArray Q i K a w:=by
 refine ak1 hF ho hg hs ?_;unfold Oper.wp;rw[hr];simp only[Oper.upon,hd];exact hK
theorem ig{i j d:Nat}{b c:Bool}{o:Oper}{a:Act}{w:World}{K:Act->World->Prop}{N:Nat}{L:List (Nat×Value)}(hF:Frm N a L)(ho:l[i]?=some o)(hg:o.guard=some (j,b))(hs:said l.toArray L j=some c)(hne:(c == b)=false)(hd:o.dst=some d)(hK:K (a.put (some d) undef) w):wpOp P l.toArray Q i K a w:=by
 unfold wpOp;simp only[TM,ho]
 have:Region.wanted o (yielded l.toArray a.tmps)=false:=by
  simp only[Region.wanted,hg,rU hF hs];cases c<;>cases b<;>first|rfl|cases hne
 rw[this];simp only[eF,if_false,hd];exact hK
def ae6(l:List Oper)(acts:List Nat)(L:List (Nat×Value)):Bool:=(List.range l.length).all λi=>acts.elem i ||(match(l[i]?).bind (·.dst)with|some d=>(lk d L).isNone|none=>true)
theorem vk{acts:List Nat}{L:List (Nat×Value)}(h:ae6 l acts L=true){i:Nat}{o:Oper}{d:Nat}(ho:l[i]?=some o)(hd:o.dst=some d)(hna:acts.elem i=false):(lk d L).isNone=true:=by
 have hi:i<l.length:=(qG.1 ho).1;have:=oH.1 h i (by simpa using hi);rw[hna]at this;simpa[ho,hd]using this
end
theorem St.perm{w0 w:World}{L L':List Bx}(h:St w0 w L)(hp:L.Perm L'):St w0 w L' :=
 ⟨h.below,λb hb=>h.box b (hp.mem_iff.2 hb),(hp.pairwise_iff (fun {_ _} h e=>h e.symm)).1 h.nd⟩
theorem adY{L:List Nat}{i:Nat}(h:i<L.length):((us L).toArray)[i]?=some (.int .u32 ((L.getD i 0:Nat):Int)):=by
 rw[TM];exact mW h
theorem uS{L:List Nat}{r:List Value}{i:Nat}(h:i<L.length):((us L++r).toArray)[i]?=some (.int .u32 ((L.getD i 0:Nat):Int)):=by
 rw[TM,UA (by simpa using h)];exact mW h
theorem Gm(a b:List Nat):us (a++b)=us a++us b:=by simp[us]
theorem Vy(L:List Nat)(i x:Nat):us (L.set i x)=(us L).set i (u32 x):=by simp[us,List.map_set]
theorem vK{L:List Nat}{i x:Nat}(h:i<L.length):splice (us L).toArray i #[.int .u32 (x:Int)]=(us (L.set i x)).toArray:=by
 have hi:i<(us L).length:=by simpa using h
 unfold splice;rw[Vy,List.set_eq_take_append_cons_drop,if_pos hi];simp[u32]
theorem jW{L:List Nat}{r:List Value}{i x:Nat}(h:i<L.length):splice (us L++r).toArray i #[.int .u32 (x:Int)]=(us (L.set i x)++r).toArray:=by
 have hi:i<(us L).length:=by simpa using h
 unfold splice;rw[Vy,List.set_eq_take_append_cons_drop,if_pos hi];simp only[Yx,ji,mg,uY];rw[List.take_append_of_le_length (Nat.le_of_lt hi),List.drop_append_of_le_length ω];simp[u32]
def elemOf(P:Program)(e:TypeId):Option (Array Value×Nat×Nat):=(P.info? e).bind λi=>i.zero.map λz=>(z.cells,i.size,i.bytes)
theorem I9(n:Nat):madeCells #[.int .u32 0] n=(us (List.replicate n 0)).toArray:=by
 apply Jv;simp[madeCells,us,u32];apply qbI;intro j
 by_cases hj:j<n
 .simp[hj,Nat.mod_one]
 .simp[hj]
section
variable {P:Program} {Q:Exit->Act->World->Prop} {a:Act} {w:World} {K:Act->World->Prop} {N:Nat} {L:List (Nat × Value)} {w0:World} {S:List Bx} {X:List Nat}
variable {ty:TypeId} {pos:String} {af:Array Edge} {gd:Option (Nat × Bool)}
theorem qo{ρ:Operand->Value}{d:Option Tmp}{t e:TypeId}{x y:Operand}{g n c:Nat}{k:IntKind}{i:Int}{j:Nat}(ht:sliceOf P t=some (e,1))(hx:ρ x=.slice (some ⟨g,0,none⟩) n c)(hy:ρ y=.int k i)(hi:i=(j:Nat))(h1:j<n):
 (execOp ρ ⟨d,.indexAddr t x y,ty,pos,af,gd⟩).run P w=.ok (.value (.pointer (some ⟨g,j,none⟩))) w:=by
 have:=mZ (w:=w) (d:=d) (ty:=ty) (pos:=pos) (af:=af) (gd:=gd) (j:=j) ht hx rfl hy hi h1
 rwa [Addr.add_lit,uY]at this
theorem Qu{d:Nat}{t e:TypeId}{z:Array Value}{s b:Nat}{x y:Operand}{kl kc:IntKind}{l c:Int}{nl nc:Nat}{cs:Array Value}(hF:Frm N a L)(hS:St w0 w S)(hlt:Nat.blt d N=true)(ht:sliceOf P t=some (e,s))(he:Sw.elemOf P e=some (z,s,b))
 (hx:ev L x=some (.int kl l)) (hy:ev L y=some (.int kc c)) (hl:l=(nl:Nat)) (hc:c=(nc:Nat)) (hlc:nl<=nc) (hb:b*nc<=281474976710656) (h63:nc<=9223372036854775807) (hcs:madeCells z (nc*s)=cs)
 (k:∀g w',w.heap.size<=g->St w0 w' ((g,e,cs)::S)->Ext w X w' (g::X)->Frm N (a.put (some d) (.slice (some ⟨g,0,none⟩) nl nc)) ((d,.slice (some ⟨g,0,none⟩) nl nc)::L)->K (a.put (some d) (.slice (some ⟨g,0,none⟩) nl nc)) w') :
 Oper.wp P ⟨some d,.makeSlice t x y,ty,pos,af,gd⟩ a w K Q:=by
 subst hl hc hcs;unfold sliceOf at ht;split at ht
 .rename_i e' hu;cases hq:P.info? e' with
  |none=>simp[hq]at ht
  |some i =>
   simp only[hq,vI,qH,ou]at ht;obtain⟨rfl,rfl⟩:=ht;unfold Sw.elemOf at he;cases hz:i.zero with
   |none=>simp[hq,hz]at he
   |some zv =>
    simp only[hq,hz,Zz,vI,qH,ou]at he;obtain⟨rfl,_,rfl⟩:=he;have hb1:((i.bytes*nc:Nat):Int)<=281474976710656:=ω
    have hb2:(i.bytes:Int)*(nc:Int)<=281474976710656:=by rwa [WR]at hb1
    have hr:=run_make (P:=P) w t e' i zv hu hq hz kl kc (nl:Int) (nc:Int) ω ω hb2 ω;simp only[dI]at hr
    have hr':(execOp a.eval ⟨some d,.makeSlice t x y,ty,pos,af,gd⟩).run P w=.ok (.value (.slice (some ⟨w.heap.size,0,none⟩) nl nc)) (w.alloc (.cells (madeCells zv.cells (nc*i.size)) e')):=by
     simp only[execOp,hF.ev hx,hF.ev hy,Sem.run_bind,hr,Result.andThen_ok,Sem.run_pure]
    exact wX hF rfl hlt hr' λh=>k _ _ (jg _) (hS.alloc _ _) (Ext.alloc _ _ _) h
 .cases ht
def OwV(e:TypeId)(So:List Bx)(v:Value)(l:List Value):Prop :=
 (So=[]/\v=.slice none 0 0/\l=[])\/∃g c r,So=[(g,e,(l++r).toArray)]/\v=.slice (some ⟨g,0,none⟩) l.length c/\c=l.length+r.length/\c<=maxLen
theorem OwV.nil(e:TypeId):OwV e [] (.slice none 0 0) []:=.inl ⟨rfl,rfl,rfl⟩
theorem OwV.block(e:TypeId)(g c:Nat)(l r:List Value)(hc:c=l.length+r.length)(hm:c<=maxLen):OwV e [(g,e,(l++r).toArray)] (.slice (some ⟨g,0,none⟩) l.length c) l:=.inr ⟨g,c,r,rfl,rfl,hc,hm⟩
theorem OwV.cl{e:TypeId}{So:List Bx}{v:Value}{l:List Value}(h:OwV e So v l){F:List Bx}{X':List Nat}(hS:St w0 w (F++So))(hX:∀m∈X',m<w0.heap.size):∃A n c,v=.slice A n c/\n=l.length/\Cl w X' A l/\n<=c/\c<=9223372036854775807:=by
 rcases h with⟨rfl,rfl,rfl⟩|⟨g,c,r,rfl,rfl,hc,hm⟩
 .exact⟨none,0,0,rfl,rfl,Cl.nil _ _ _,jg _,ω⟩
 .have hb:=hS.box (g,e,(l++r).toArray) η;have hcl:=Cl.of_block (X:=X') hb.1 (λhg=>by have:=hX g hg;have:=hb.2;simp only at this;omega) l.length;simp only[List.take_left']at hcl;exact⟨_,_,c,rfl,rfl,by simpa using hcl,ω,by simpa[maxLen]using hm⟩
theorem aak{F So So':List Bx}{w':World}(hS:St w0 w (F++So))(hg:∀k,k<w.heap.size->k ∉ bl So->w'.heap[k]?=w.heap[k]?)(hos:w'.os=w.os)(htp:w'.tape=w.tape)(hout:w'.output=w.output)(hsz:w.heap.size<=w'.heap.size)
 (hn:∀b∈So',w'.heap[b.1]?=some (.cells b.2.2 b.2.1 (0,0))/\(b.1∈bl So\/w.heap.size<=b.1)) (hp:So'.Pairwise λa b=>a.1≠b.1):St w0 w' (F++So'):=by
 have hsplit:=List.pairwise_append.1 hS.nd;refine⟨?_,λb hb=>?_, ?_⟩
 .refine hS.below.trans ⟨hos,htp,hout,hsz,λk hk=>hg k (Ea hk hS.below.size) (λhm=>?_)⟩;obtain⟨b,hb,rfl⟩:=iV.1 hm;have:=(hS.box b (by simp[hb])).2;omega
 .rcases uh.1 hb with hb|hb
  .have hbb:=hS.box b (by simp[hb]);refine⟨(hg _ (lt_of_heap hbb.1) (λhm=>?_)).trans hbb.1,hbb.2⟩;obtain⟨b',hb',e⟩:=iV.1 hm;exact hsplit.2.2 b hb b' hb' e.symm
  .refine⟨(hn b hb).1, ?_⟩;rcases(hn b hb).2 with h|h
   .obtain⟨b',hb',e⟩:=iV.1 h;rw[<-e];exact(hS.box b' (by simp[hb'])).2
   .exact fZ hS.below.size h
 .refine List.pairwise_append.2 ⟨hsplit.1,hp,λx hx y hy=>?_⟩;rcases(hn y hy).2 with h|h
  .obtain⟨b',hb',e⟩:=iV.1 h;rw[<-e];exact hsplit.2.2 x hx b' hb'
  .have:=hS.lt (b:=x) (by simp[hx]);omega
theorem F6{d:Nat}{t e:TypeId}{z:Array Value}{b:Nat}{x y:Operand}{v:Value}{l m:List Value}{A:Option Addr}{n c:Nat}{F So:List Bx}{Y:List Nat}(hF:Frm N a L)(hS:St w0 w (F++So))(hlt:Nat.blt d N=true)(ht:sliceOf P t=some (e,1))(he:Sw.elemOf P e=some (z,1,b))(hz1:z.size=1)
 (hx:ev L x=some v) (hy:ev L y=some (.slice A n c)) (hn:n=m.length) (hO:OwV e So v l) (hm:Cl w Y A m) (h1:∀u∈m,u.oneCell'=true) (hlen:(l.length+m.length)*b<=140737488355328) (h63:l.length+m.length<=9223372036854775807)
 (k:∀v' So' w',OwV e So' v' (l++m)->St w0 w' (F++So')->Ext w (bl F++bl So++X) w' (bl F++bl So'++X)->(∀k,k<w.heap.size->k ∉ bl So->w'.heap[k]?=w.heap[k]?)->Frm N (a.put (some d) v') ((d,v')::L)->K (a.put (some d) v') w') :
 Oper.wp P ⟨some d,.call ⟨.builtin .append,#[x,y],#[t,t]⟩,ty,pos,af,gd⟩ a w K Q:=by
 subst hn;unfold sliceOf at ht;split at ht
 .rename_i e' hu;cases hq:P.info? e' with
  |none=>simp[hq]at ht
  |some i =>
   simp only[hq,vI,qH,ou]at ht;obtain⟨rfl,hi1⟩:=ht;unfold Sw.elemOf at he;cases hz:i.zero with
   |none=>simp[hq,hz]at he
   |some zv =>
    simp only[hq,hz,Zz,vI,qH,ou]at he;obtain⟨rfl,_,rfl⟩:=he
    have hown:w.ownsRow w0.heap.size e' 1 v l.length l:=by
     rcases hO with⟨rfl,rfl,rfl⟩|⟨g,c',r,rfl,rfl,hc,hmx⟩
     .exact World.ownsRow_nil _ _ _ _
     .have hb:=hS.box (g,e',(l++r).toArray) η;exact⟨η,.inr ⟨g,c',_,rfl,hb.2,hb.1,ω,hmx,by simp[hc],η⟩⟩
    have hblk:v.ownBlock=none/\So=[]\/∃g,v.ownBlock=some g/\bl So=[g]:=by
     rcases hO with⟨rfl,rfl,rfl⟩|⟨g,c',r,rfl,rfl,hc,hmx⟩
     .exact .inl ⟨rfl,rfl⟩
     .exact .inr ⟨g,rfl,rfl⟩
    have hfin:∀v' w',(Builtin.append_ #[t,t] ty #[v,.slice A m.length c]).run P w=.ok v' w'->w'.ownsRow w0.heap.size e' 1 v' (l.length+m.length) (l++m)->w.grownBy w' v.ownBlock->(v'.ownBlock=v.ownBlock\/v'.ownBlock=some w.heap.size) ->
     Oper.wp P ⟨some d,.call ⟨.builtin .append,#[x,y],#[t,t]⟩,ty,pos,af,gd⟩ a w K Q:=by
     intro v' w' hr hown' hgr hat
     have hr':(execOp a.eval ⟨some d,.call ⟨.builtin .append,#[x,y],#[t,t]⟩,ty,pos,af,gd⟩).run P w=.ok (.value v') w':=by
      simp[execOp,resolve,invoke,builtin,hF.ev hx,hF.ev hy,hr]
     have hunch:∀k,k<w.heap.size->k ∉ bl So->w'.heap[k]?=w.heap[k]?:=by
      intro k hk hkn;refine hgr.block k hk (λe=>hkn ?_);rcases hblk with⟨h0,_⟩|⟨g,h0,h1⟩
      .rw[h0]at e;cases e
      .rw[h0]at e;cases e;rw[h1];simp
     have hstate:∃So',OwV e' So' v' (l++m)/\(∀b∈So',w'.heap[b.1]?=some (.cells b.2.2 b.2.1 (0,0))/\(b.1∈bl So\/w.heap.size<=b.1))/\So'.Pairwise (λa b=>a.1≠b.1):=by
      rcases hown'.2 with⟨rfl,h0⟩|⟨g,c',cur,rfl,hb,hg,hle,hmx,hcs,htk⟩
      .have:l++m=[]:=UR (by simp at h0 ⊢;omega);exact⟨[],.inl ⟨rfl,rfl,this⟩,λ_ h=>(by cases h),.nil⟩
      .have hsplit:cur.toList=(l++m)++cur.toList.drop (l.length+m.length):=by
        rw[<-htk,Nat.mul_one,RP]
       refine⟨[(g,e',cur)],.inr ⟨g,c',cur.toList.drop (l.length+m.length), ?_,η, ?_,hmx⟩, ?_,η⟩
       .rw[<-hsplit]
       .simp at hcs ⊢;omega
       .intro b hb;simp only[pI]at hb;subst hb;refine⟨hg, ?_⟩;rcases hat with h|h
        .rcases hblk with⟨h0,_⟩|⟨g',h0,h1⟩
         .rw[h0]at h;cases h
         .rw[h0]at h;cases h;left;rw[h1];simp
        .cases h;right;exact jg _
     obtain⟨So',hO',hb',hp'⟩:=hstate;have hS':=aak (So':=So') hS hunch hgr.os hgr.tape hgr.output hgr.size hb' hp';refine wX hF rfl hlt hr' λh=>k v' So' w' hO' hS' ⟨hgr.size,λk hk hkn _=>?_⟩ hunch h
     simp only[uh,not_or]at hkn;refine⟨hunch k hk hkn.1.2, ?_⟩;simp only[uh,not_or];refine⟨⟨hkn.1.1,λhm=>?_⟩,hkn.2⟩;obtain⟨b,hb,rfl⟩:=iV.1 hm;rcases(hb' b hb).2 with h|h
     .exact hkn.1.2 h
     .omega
    rcases A with _|ad
    .have hmn:m=[]:=by
      cases m with
      |nil=>rfl
      |cons u r=>obtain⟨ad,h,_⟩:=hm η;cases h
     subst hmn;refine hfin v w ?_ (by simpa using hown) ⟨rfl,rfl,rfl,jg _,λ_ _ _=>rfl⟩ (.inl rfl);rcases hown.2 with⟨rfl,h0⟩|⟨g,c',cur,rfl,_,_,hnc,_⟩
     .simp[Builtin.append_,run_underlying hu,sizeOf,typeInfo,hq,Builtin.lenOf,Builtin.firstCells]
     .simp[Builtin.append_,run_underlying hu,sizeOf,typeInfo,hq,Builtin.lenOf,Builtin.firstCells,hnc,storeCells]
    .have hcells:∀j u,m[j]?=some u->w.cell? (ad.add j)=some u:=by
      intro j u hu';obtain⟨ad',h,_,_,hc⟩:=hm (by intro e;subst e;simp at hu');cases h;exact hc j u hu'
     obtain⟨v',w',hr,h2,h3,_,h5⟩:=run_append_own_at (P:=P) w w0.heap.size t ty e' i zv 1 i.bytes hu hq hz hi1 rfl hz1 ψ v l.length l hown ad m.length c m η hcells h1 (by simpa[maxLen]using h63) hlen hS.below.size;exact hfin v' w' hr h2 h3 h5
 .cases ht
theorem Cl.of_new{w:World}{X:List Nat}(hX:∀m∈X,m<w.heap.size)(cs:Array Value)(t:TypeId):Cl (w.alloc (.cells cs t)) X (some ⟨w.heap.size,0,none⟩) cs.toList:=by
 have:=Cl.of_block (heap_alloc_new w (.cells cs t)) (X:=X) (λh=>by have:=hX _ h;omega) cs.size
 rwa [MV η]at this
theorem Py{t e:TypeId}{s n:Nat}{z cs:Array Value}{b:Nat}{parts:Array (Nat×Value)}(ht:sliceOf P t=some (e,s))(he:Sw.elemOf P e=some (z,s,b))(hn:n*s<=16777216)(h0:n*s≠0)
 (hfill:Instr.fill (λi=>some (i*s,s)) (madeCells z (n*s)) parts.toList=some cs) :
 (Instr.buildSlice t n parts).run P w=.ok (.slice (some ⟨w.heap.size,0,none⟩) n n) (w.alloc (.cells cs e)):=by
 unfold sliceOf at ht;split at ht
 .rename_i e' hu;cases hq:P.info? e' with
  |none=>simp[hq]at ht
  |some i =>
   simp only[hq,vI,qH,ou]at ht;obtain⟨rfl,rfl⟩:=ht;unfold Sw.elemOf at he;cases hz:i.zero with
   |none=>simp[hq,hz]at he
   |some zv =>
    simp only[hq,hz,Zz,vI,qH,ou]at he;obtain⟨rfl,_,rfl⟩:=he;have hn':¬(n*i.size>2^24):=ω
    have hfill':Instr.fill (λj=>some (j*i.size,i.size)) ((Array.range (n*i.size)).map (zv.cells[· % zv.cells.size]!)) parts.toList=some cs:=hfill;simp only[Instr.buildSlice,Sem.run_bind,run_underlying hu,Result.andThen_ok,sizeOf,typeInfo];simp[hq,hz,zeroValue,typeInfo,h0,hfill',newRow];exact hn
 .cases ht
theorem OI{d:Nat}{t e:TypeId}{s n b:Nat}{z cs:Array Value}{parts:Array (Nat×Operand)}{vs:Array (Nat×Value)}(hF:Frm N a L)(hS:St w0 w S)(hX:∀m∈X,m<w.heap.size)(hlt:Nat.blt d N=true)(ht:sliceOf P t=some (e,s))(he:Sw.elemOf P e=some (z,s,b))(hn:Nat.ble (n*s) 16777216=true)(h0:Nat.beq (n*s) 0=false)
 (hv:parts.map (λp=>(p.1,a.eval p.2))=vs) (hfill:Instr.fill (λi=>some (i*s,s)) (madeCells z (n*s)) vs.toList=some cs)
 (k:∀g w',w.heap.size<=g->St w0 w' S->Ext w X w' X->Cl w' X (some ⟨g,0,none⟩) cs.toList->Frm N (a.put (some d) (.slice (some ⟨g,0,none⟩) n n)) ((d,.slice (some ⟨g,0,none⟩) n n)::L)->K (a.put (some d) (.slice (some ⟨g,0,none⟩) n n)) w') :
 Oper.wp P ⟨some d,.buildSlice t n parts,ty,pos,af,gd⟩ a w K Q:=by
 have hr:=Py (w:=w) ht he (by simpa[Nat.ble_eq]using hn) (λe=>by simp[e]at h0) hfill
 have hr':(execOp a.eval ⟨some d,.buildSlice t n parts,ty,pos,af,gd⟩).run P w=.ok (.value (.slice (some ⟨w.heap.size,0,none⟩) n n)) (w.alloc (.cells cs e)):=by
  have hv':(parts.map λx=>match x with|(i,x)=>(i,a.eval x))=vs:=by rw[<-hv]
  simp only[execOp,hv',Sem.run_bind,hr,Result.andThen_ok,Sem.run_pure]
 exact wX hF rfl hlt hr' λh=>k _ _ (jg _) (hS.alloc_ _) (Ext.alloc_ _ _ _) (Cl.of_new hX cs e) h
end
theorem Ym{a:Act}{x:Operand}{u:Value}(h:a.eval x=u):(#[(0,x)]:Array (Nat×Operand)).map (λp=>(p.1,a.eval p.2)) = #[(0,u)]:=by simp[h]
theorem I8{x:Nat}:Instr.fill (λi=>some (i*1,1)) (madeCells #[.int .u32 0] (1*1)) [(0,.int .u32 (x:Int))]=some (us [x]).toArray:=by rw[I9];simp[Instr.fill,us,u32,Value.cells]
theorem UC.of_box{w:World}{X:List Nat}{g:Nat}{t:TypeId}{L:List Nat}(hg:w.heap[g]?=some (.cells (us L).toArray t (0,0)))(hx:g ∉ X)(hl:L.length<=9223372036854775807):UC w X (some ⟨g,0,none⟩) L.length L :=
 ⟨by have:=Cl.of_block hg hx L.length;simpa[MV]using this,jg _,hl⟩
theorem UC.of_ow{w0 w:World}{e:TypeId}{So F:List Bx}{v:Value}{l:List Nat}{X:List Nat}(h:OwV e So v (us l))(hS:St w0 w (F++So))(hX:∀m∈X,m<w0.heap.size):UL w X v l:=by
 obtain⟨A,n,c,rfl,rfl,hcl,hn,hc⟩:=h.cl hS hX;exact⟨A,_,c,rfl,η,hcl,by simpa using hn,hc⟩
theorem UC.one{w:World}{X:List Nat}{A:Option Addr}{l:List Nat}(h:Cl w X A (us l))(hl:l.length<=9223372036854775807):UC w X A l.length l:=⟨h,jg _,hl⟩
end Go.Sw
namespace Go.Sw
def aG:List Nat->List Nat
 |[]=>[]
 |x::r=>match aG r with
  |[]=>if x=0 then[]else[x]
  |y::s=>x::y::s
theorem Af:∀(l:List Nat),(∀j,l.getD j 0=0)->aG l=[]
 |[],_=>rfl
 |x::r,h=>by
  have h0:x=0:=h 0;have hr:=Af r (λj=>h (j+1));simp[aG,hr,h0]
theorem vT(x:Nat)(r:List Nat)(k:Nat):(x::r).getD (k+1) 0=r.getD k 0:=by simp[List.getD]
theorem o8:∀(l:List Nat) (k:Nat),k<=l.length->(∀j,k<=j->l.getD j 0=0)->(k=0\/l.getD (k-1) 0≠0)->l.take k=aG l
 |l,0,_,hz,_=>by simp[Af l (λj=>hz j (Au _))]
 |[],k+1,hk,_,_=>by simp at hk
 |x::r,k+1,hk,hz,h=>by
  have hr:=o8 r k (by simpa using hk) (λj hj=>hz (j+1) ω) (by
   rcases yD k with h0|h0
   .exact .inl h0
   .refine .inr ?_;have h':=h.resolve_left (Nat.succ_ne_zero k);rw[show k+1-1=(k-1)+1 by omega,vT]at h'
    exact h')
  rw[List.take_succ_cons,hr];simp only[aG];cases ht:aG r with
  |nil =>
   have hk0:k=0:=by
    rcases yD k with h0|h0
    .exact h0
    .have h1:min k r.length=0:=by rw[<-xB,hr,ht];rfl
     have h2:k<=r.length:=by simpa using hk
     omega
   subst hk0;have hx:x≠0:=by have:=h.resolve_left (Nat.succ_ne_zero 0);simpa using this
   simp[hx]
  |cons y s=>rfl
theorem zy{l:List Nat}{k:Nat}(h:∀j,k<=j->l.getD j 0=0)(hk:l.getD (k-1) 0=0):∀j,k-1<=j->l.getD j 0=0:=by
 intro j hj;rcases Ju j k with hlt|hge
 .rw[show j=k-1 by omega];exact hk
 .exact h j hge
theorem iq(l:List Nat):(aG l).length<=l.length:=by
 induction l with
 |nil=>simp[aG]
 |cons x r ih =>
  simp only[aG];cases h:aG r with
  |nil=>by_cases hx:x=0<;>simp[hx]
  |cons y s=>rw[h]at ih;simpa using ih
def val:List Nat->Nat
 |[]=>0
 |x::r=>x+1000000000*val r
def Lb(l:List Nat):Prop:=∀x∈l,x<1000000000
theorem Lb.nil:Lb []:=λ_ h=>by cases h
theorem Lb.cons{x:Nat}{r:List Nat}(h:x<1000000000)(k:Lb r):Lb (x::r):=λy hy=>by
 rcases jA.1 hy with rfl|hy
 .exact h
 .exact k y hy
theorem Lb.head{x:Nat}{r:List Nat}(h:Lb (x::r)):x<1000000000:=h x η
theorem Lb.tail{x:Nat}{r:List Nat}(h:Lb (x::r)):Lb r:=λy hy=>h y (by simp[hy])
theorem Lb.append{a b:List Nat}(h:Lb a)(k:Lb b):Lb (a++b):=λy hy=>by
 rcases uh.1 hy with hy|hy
 .exact h y hy
 .exact k y hy
theorem Lb.take{l:List Nat}(h:Lb l)(n:Nat):Lb (l.take n):=λy hy=>h y (qbL hy)
theorem Lb.drop{l:List Nat}(h:Lb l)(n:Nat):Lb (l.drop n):=λy hy=>h y (List.mem_of_mem_drop hy)
theorem Lb.getD{l:List Nat}(h:Lb l)(i:Nat):l.getD i 0<1000000000:=by
 by_cases hi:i<l.length
 .have:=h l[i] (qbJ hi);simpa[List.getD,hi]using this
 .simp[List.getD,hi]
theorem val_append:∀(a b:List Nat),val (a++b)=val a+1000000000^a.length*val b
 |[],b=>by simp[val]
 |x::r,b=>by
  have:=val_append r b;simp only[List.cons_append,val,this,ji,EU];rw[EN,<-Zt,Nat.add_assoc,Gx (1000000000^r.length) 1000000000]
theorem iG:∀(l:List Nat),Lb l->val l<1000000000^l.length
 |[],_=>by simp[val]
 |x::r,h=>by
  have:=iG r h.tail;have hx:=h.head;simp only[val,ji,EU];omega
theorem pK{l:List Nat}(h:Lb l):Lb (aG l):=by
 induction l with
 |nil=>exact h
 |cons x r ih =>
  have hr:=ih h.tail;simp only[aG];cases ht:aG r with
  |nil=>by_cases hx:x=0<;>simp[hx];exact Lb.nil;exact Lb.cons h.head Lb.nil
  |cons y s=>rw[ht]at hr;exact Lb.cons h.head hr
theorem gQ(l:List Nat):val (aG l)=val l:=by
 induction l with
 |nil=>rfl
 |cons x r ih =>
  simp only[aG];cases ht:aG r with
  |nil =>
   rw[ht]at ih;simp only[val]at ih
   by_cases hx:x=0<;>simp[hx,val,<-ih]
  |cons y s=>rw[ht]at ih;simp only[val]at ih ⊢;rw[ih]
theorem Ky(l:List Nat):aG (aG l)=aG l:=by
 induction l with
 |nil=>rfl
 |cons x r ih =>
  simp only[aG];cases ht:aG r with
  |nil=>by_cases hx:x=0<;>simp[hx,aG]
  |cons y s =>
   rw[ht]at ih;simp only[aG]at ih ⊢;cases hs:aG s with
   |nil =>
    rw[hs]at ih
    by_cases hy:y=0<;>simp[hy]at ih ⊢
    exact ih
   |cons z u=>rw[hs]at ih;simp at ih;simp[ih]
def lim(n:Nat):List Nat:=if n=0 then[]else n%1000000000::lim (n/1000000000)
termination_by n
decreasing_by omega
theorem kM:lim 0=[]:=by rw[lim];simp
theorem sS{n:Nat}(h:n≠0):lim n=n%1000000000::lim (n/1000000000):=by rw[lim];simp[h]
theorem I5{n:Nat}:lim n=[]↔n=0:=by
 constructor
 .intro h
  by_cases h0:n=0
  .exact h0
  .rw[sS h0]at h;cases h
 .rintro rfl;exact kM
theorem aX(n:Nat):val (lim n)=n:=by
 induction n using Nat.strongRecOn with
 |_ n ih =>
  by_cases h:n=0
  .subst h;simp[kM,val]
  .rw[sS h,val,ih _ ω];omega
theorem bJ(n:Nat):Lb (lim n):=by
 induction n using Nat.strongRecOn with
 |_ n ih =>
  by_cases h:n=0
  .subst h;rw[kM];exact Lb.nil
  .rw[sS h];exact Lb.cons (qx _ ω) (ih _ ω)
theorem F5(n:Nat):aG (lim n)=lim n:=by
 induction n using Nat.strongRecOn with
 |_ n ih =>
  by_cases h:n=0
  .subst h;rw[kM];rfl
  .rw[sS h];simp only[aG,ih _ (show n/1000000000<n by omega)];cases hl:lim (n/1000000000)with
   |nil =>
    have:n/1000000000=0:=I5.1 hl;have:n%1000000000≠0:=ω
    simp[this]
   |cons y s=>rfl
theorem kQ:∀(l:List Nat),Lb l->lim (val l)=aG l
 |[],_=>by simp[val,kM,aG]
 |x::r,h=>by
  have ih:=kQ r h.tail;have hx:=h.head;simp only[aG,val]
  by_cases h0:x+1000000000*val r=0
  .have hr:val r=0:=ω
   have hx0:x=0:=ω
   rw[hr,kM]at ih;rw[h0,kM,<-ih];simp[hx0]
  .rw[sS h0,show(x+1000000000*val r)%1000000000=x by omega,show(x+1000000000*val r)/1000000000=val r by omega,ih];cases ht:aG r with
   |nil =>
    have hr:val r=0:=by have:=gQ r;rw[ht]at this;simpa[val]using this.symm
    have:x≠0:=ω
    simp[this]
   |cons y s=>rfl
theorem take_zero{l:List Nat}{k:Nat}(hk:0<k)(h:(l.take k).getD (k-1) 0=0):l.getD (k-1) 0=0:=by
 have e:(l.take k).getD (k-1) 0=l.getD (k-1) 0:=by
  simp only[List.getD,Pz];rw[if_pos ω]
 rwa [e]at h
theorem TL{l:List Nat}{k:Nat}(_:k<=l.length)(h:k=0\/(l.take k).getD (k-1) 0≠0):k=0\/l.getD (k-1) 0≠0:=by
 rcases yD k with h0|h0
 .exact .inl h0
 .refine .inr λh'=>(h.resolve_left ω) ?_
  simp only[List.getD,Pz];rw[if_pos ω];exact h'
def CanL(l:List Nat):Prop:=Lb l/\aG l=l
theorem CanL.lim(n:Nat):CanL (lim n):=⟨bJ n,F5 n⟩
theorem CanL.eq{l:List Nat}(h:CanL l):Sw.lim (val l)=l:=by rw[kQ l h.1,h.2]
theorem gY{l:List Nat}(h:Lb l):CanL (aG l):=⟨pK h,Ky l⟩
theorem Bg{l:List Nat}(h:Lb l):CanL l↔(l=[]\/l.getD (l.length-1) 0≠0):=by
 constructor
 .intro hc;induction l with
  |nil=>exact .inl rfl
  |cons x r ih =>
   refine .inr ?_;have hc2:=hc.2;simp only[aG]at hc2;cases ht:aG r with
   |nil =>
    rw[ht]at hc2
    by_cases hx:x=0
    .simp[hx]at hc2
    .simp[hx]at hc2;subst hc2;simpa using hx
   |cons y s =>
    rw[ht]at hc2;simp at hc2;subst hc2;rcases ih h.tail ⟨h.tail,ht⟩with h'|h'
    .cases h'
    .simpa[List.getD]using h'
 .rintro (rfl|h')
  .exact⟨Lb.nil,rfl⟩
  .refine⟨h, ?_⟩;have:=o8 l l.length (jg _) (λj hj=>by simp[List.getD,hj]) (.inr h');rw[oU]at this;exact this.symm
theorem IC{l:List Nat}(h:CanL l)(hn:l≠[]):1000000000^(l.length-1)<=val l:=by
 have h1:=((Bg h.1).1 h).resolve_left hn;obtain⟨i,x,rfl⟩:∃i x,l=i++[x]:=⟨l.dropLast,l.getLast hn,(List.dropLast_concat_getLast hn).symm⟩
 have hx:x≠0:=by simpa[List.getD]using h1
 rw[val_append];simp only[rQ,ji,mg,Nat.add_sub_cancel,val];have:=Ie (1000000000^i.length) (show 1<=x+1000000000*0 by omega);omega
def iy(x y:Nat):Int:=if x<y then -1 else if y<x then 1 else 0
theorem Qr{x y:Nat}(h:x<y):iy x y = -1:=by simp[iy,h]
theorem Pm{x y:Nat}(h:y<x):iy x y=1:=by simp[iy,h];omega
theorem acn{x y:Nat}(h:x=y):iy x y=0:=by subst h;simp[iy]
theorem jk{a b:List Nat}(ha:CanL a)(hb:CanL b)(h:a.length<b.length):val a<val b:=by
 have h1:=iG a ha.1;have h2:=IC hb (by intro e;subst e;simp at h);have h3:1000000000^a.length<=1000000000^(b.length-1):=Gi ω ω;omega
theorem o7:∀{a b:List Nat} (i:Nat),Lb a->Lb b->a.length=b.length->i<a.length->(∀j,i<j->a.getD j 0=b.getD j 0)->a.getD i 0<b.getD i 0->val a<val b
 |[],_,i,_,_,_,hi,_,_=>by simp at hi
 |_::_,[],i,_,_,hl,_,_,_=>by simp at hl
 |x::r,y::s,0,_,_,hl,_,hj,h=>by
  have hrs:r=s:=by
   apply qbI;intro k;have:=hj (k+1) ω;simp only[vT]at this;have hl':r.length=s.length:=by simpa using hl
   by_cases hk:k<r.length
   .have hk':k<s.length:=ω
    simpa[List.getD,hk,hk']using this
   .have hk':¬ k<s.length:=ω
    simp[hk,hk']
  subst hrs;have h':x<y:=by simpa[List.getD]using h
  simp only[val];omega
 |x::r,y::s,i+1,ha,hb,hl,hi,hj,h=>by
  have ih:=o7 (a:=r) (b:=s) i ha.tail hb.tail (by simpa using hl) (by simpa using hi) (λj hj'=>by have:=hj (j+1) ω;simpa only[vT]using this) (by simpa only[vT]using h);have:=ha.head;simp only[val];omega
theorem KJ{a b:List Nat}(hl:a.length=b.length)(h:∀j,a.getD j 0=b.getD j 0):a=b:=by
 apply qbI;intro k
 by_cases hk:k<a.length
 .have hk':k<b.length:=ω
  have:=h k;simpa[List.getD,hk,hk']using this
 .have hk':¬ k<b.length:=ω
  simp[hk,hk']
theorem agree_step{a b:List Nat}{k:Nat}(h:∀j,k<=j->a.getD j 0=b.getD j 0)(hk:a.getD (k-1) 0=b.getD (k-1) 0):∀j,k-1<=j->a.getD j 0=b.getD j 0:=by
 intro j hj;rcases Ju j k with hlt|hge
 .rw[show j=k-1 by omega];exact hk
 .exact h j hge
theorem getD_none{l:List Nat}{k:Nat}(h:l.length<=k):l.getD k 0=0:=by simp[List.getD,h]
theorem bY(l:List Nat)(k:Nat):val (l.take (k+1))=val (l.take k)+1000000000^k*l.getD k 0:=by
 by_cases h:k<l.length
 .have e:l.take (k+1)=l.take k++[l.getD k 0]:=by
   rw[List.take_succ_eq_append_getElem h];simp[List.getD,h]
  rw[e,val_append];simp[val,Nat.min_eq_left (Nat.le_of_lt h)]
 .rw[getD_none ω,MV ω,MV ω];simp
theorem cZ{l:List Nat}{k:Nat}(h:l.length<=k):val (l.take k)=val l:=by rw[MV h]
theorem vU(n:Nat):val (List.replicate n 0)=0:=by
 induction n with
 |zero=>rfl
 |succ n ih=>simp[List.replicate_succ,val,ih]
theorem gV(n:Nat):Lb (List.replicate n 0):=λx hx=>by have:=(List.mem_replicate.1 hx).2;omega
theorem gG{l:List Nat}(h:Lb l){i d:Nat}(hd:d<1000000000):Lb (l.set i d):=λx hx=>by
 rcases List.mem_or_eq_of_mem_set hx with hx|rfl
 .exact h x hx
 .exact hd
theorem sW{l:List Nat}(h:Lb l){d:Nat}(hd:d<1000000000):Lb (l++[d]):=h.append (Lb.cons hd Lb.nil)
theorem Lr{l:List Nat}{i d m:Nat}(h:m<=i):(l.set i d).take m=l.take m:=by
 apply qbI;intro j;simp only[Pz,List.getElem?_set]
 by_cases hj:j<m
 .rw[if_pos hj,if_pos hj,if_neg ω]
 .rw[if_neg hj,if_neg hj]
theorem qE{l:List Nat}{i d:Nat}(h:i<l.length):(l.set i d).getD i 0=d:=by simp[List.getD,h]
theorem Dx{l:List Nat}{i j d:Nat}(h:i≠j):(l.set i d).getD j 0=l.getD j 0:=by simp[List.getD,h]
theorem lT{l:List Nat}{k d:Nat}(h:k<l.length):val ((l.set k d).take (k+1))=val (l.take k)+1000000000^k*d:=by
 rw[bY,Lr (jg _),qE h]
theorem Oy{l:List Nat}{j d:Nat}(h:j<l.length):∀m,j<m->val ((l.set j d).take m)+1000000000^j*l.getD j 0=val (l.take m)+1000000000^j*d:=by
 intro m hm;induction m with
 |zero=>omega
 |succ m ih =>
  by_cases e:j=m
  .subst e;rw[lT h,bY];omega
  .rw[bY,bY l m,Dx e];have:=ih ω;omega
theorem wV(p d s:Nat)(h:s%1000000000=d):p*d+p*1000000000*(s/1000000000)=p*s:=by
 have:s=d+1000000000*(s/1000000000):=ω
 rw[Zt,<-EN,<-this]
theorem vN{o x y:List Nat}{k cr s d c:Nat}(hk:k<o.length)(h:val (o.take k)+1000000000^k*cr=val (x.take k)+val (y.take k))(hs:s=cr+x.getD k 0+y.getD k 0)(hd:d=s%1000000000)(hc:c=s/1000000000):
 val ((o.set k d).take (k+1))+1000000000^(k+1)*c=val (x.take (k+1))+val (y.take (k+1)):=by
 subst hd hc;rw[lT hk,bY x,bY y,EU];have h1:=wV (1000000000^k) _ s rfl;have h2:1000000000^k*s=1000000000^k*cr+1000000000^k*x.getD k 0+1000000000^k*y.getD k 0:=by rw[hs,EN,EN]
 omega
theorem Wj{o x y:List Nat}{k cr:Nat}(ho:o.length=x.length+1)(hk:k=x.length)(hy:y.length<=x.length)(hv:val (o.take k)+1000000000^k*cr=val (x.take k)+val (y.take k)):val (o.set x.length cr)=val x+val y:=by
 subst hk;have h1:=lT (d:=cr) (show x.length<o.length by omega);rw[cZ κ,hv,cZ (jg _),cZ hy]at h1;exact h1
theorem vH{o x y:List Nat}{k cr s d c:Nat}(hk:o.length=k)(h:val o+1000000000^k*cr=val (x.take k)+val (y.take k))(hs:s=cr+x.getD k 0+y.getD k 0)(hd:d=s%1000000000)(hc:c=s/1000000000):
 val (o++[d])+1000000000^(k+1)*c=val (x.take (k+1))+val (y.take (k+1)):=by
 subst hd hc;rw[val_append,hk,bY x,bY y,EU];have h1:=wV (1000000000^k) _ s rfl;have h2:1000000000^k*s=1000000000^k*cr+1000000000^k*x.getD k 0+1000000000^k*y.getD k 0:=by rw[hs,EN,EN]
 simp only[val,TP,Nat.add_zero];omega
theorem YX{o:List Nat}{k:Nat}(hk:o.length=k)(d:Nat):val (o++[d])=val o+1000000000^k*d:=by
 rw[val_append,hk];simp[val]
theorem tK{o x y:List Nat}{k br d b:Nat}(hk:k<o.length)(h:val (o.take k)+val (y.take k)=val (x.take k)+1000000000^k*br)(hs:d+(br+y.getD k 0)=x.getD k 0+1000000000*b):
 val ((o.set k d).take (k+1))+val (y.take (k+1))=val (x.take (k+1))+1000000000^(k+1)*b:=by
 rw[lT hk,bY x,bY y,EU];have h2:1000000000^k*(d+(br+y.getD k 0))=1000000000^k*(x.getD k 0+1000000000*b):=by rw[hs]
 simp only[EN,<-Zt]at h2;omega
theorem Sm{o x y n br:Nat}(_:x<n)(h:o+y=x+n*br)(hy:y<=x)(ho:o<n):o=x-y:=by
 have:br=0:=by
  rcases yD br with h0|h0
  .exact h0
  .exfalso;have:n*1<=n*br:=Ie n h0;omega
 subst this;omega
theorem wO{o a b:List Nat}{i k m cr t d c p:Nat}(hj:i+k<o.length)(hm:i+k<m)(h:val (o.take m)+1000000000^(i+k)*cr=p+1000000000^i*(a.getD i 0*val (b.take k)))(ht:t=o.getD (i+k) 0+a.getD i 0*b.getD k 0+cr)(hd:d=t%1000000000)(hc:c=t/1000000000):
 val ((o.set (i+k) d).take m)+1000000000^(i+(k+1))*c=p+1000000000^i*(a.getD i 0*val (b.take (k+1))):=by
 subst hd hc;have h0:=Oy (d:=t%1000000000) hj m hm;have h1:=wV (1000000000^(i+k)) _ t rfl;have h2:1000000000^(i+k)*t=1000000000^(i+k)*o.getD (i+k) 0+1000000000^(i+k)*(a.getD i 0*b.getD k 0)+1000000000^(i+k)*cr:=by rw[ht,EN,EN]
 have h3:1000000000^i*(a.getD i 0*val (b.take (k+1)))=1000000000^i*(a.getD i 0*val (b.take k))+1000000000^(i+k)*(a.getD i 0*b.getD k 0):=by
  rw[bY,EN,EN,Nat.pow_add];congr 1;simp only[Zt,Nat.mul_left_comm,Gx]
 rw[h3,show i+(k+1)=(i+k)+1 by omega,EU];omega
theorem zM{o a b:List Nat}{i cr:Nat}(hj:i+b.length<o.length)(h:val (o.take (i+b.length))+1000000000^(i+b.length)*cr=val (a.take i)*val b+1000000000^i*(a.getD i 0*val (b.take b.length))):
 val ((o.set (i+b.length) cr).take (i+1+b.length))=val (a.take (i+1))*val b:=by
 rw[show i+1+b.length=i+b.length+1 by omega,lT hj,h,oU,bY,Nat.add_mul,Zt]
theorem Df{x y o c:Nat}(hx:x<1000000000)(hy:y<1000000000)(ho:o<1000000000)(hc:c<1000000000):x*y<=999999998000000001/\(o+x*y+c)/1000000000<1000000000:=by
 have:=MZ (show x<=999999999 by omega) (show y<=999999999 by omega);refine⟨ω,ω⟩
theorem drop_cons{l:List Nat}{k:Nat}(h:k<l.length):l.drop k=l.getD k 0::l.drop (k+1):=by
 rw[List.drop_eq_getElem_cons h];simp[List.getD,h]
theorem ru{l:List Nat}{k:Nat}(hk:0<k)(h:k<=l.length):val (l.drop (k-1))=l.getD (k-1) 0+1000000000*val (l.drop k):=by
 rw[drop_cons (show k-1<l.length by omega),val,show k-1+1=k by omega]
theorem Ag(l:List Nat)(k:Nat):val (l.drop k)<=val l:=by
 have h:=val_append (l.take k) (l.drop k);rw[RP]at h;have h1:1000000000^0<=1000000000^(l.take k).length:=Gi ω (Au _);rw[Nat.pow_zero]at h1;have h2:1*val (l.drop k)<=1000000000^(l.take k).length*val (l.drop k):=Nat.mul_le_mul_right _ h1;omega
theorem dA{l:List Nat}{k:Nat}(h:l.length<=k):val (l.drop k)=0:=by rw[List.drop_eq_nil_of_le h];rfl
theorem Ac{l:List Nat}{i d k:Nat}(h:i<k):(l.set i d).drop k=l.drop k:=by
 apply qbI;intro j;simp only[Pj,List.getElem?_set];rw[if_neg ω]
theorem sU{l:List Nat}{k d:Nat}(hk:0<k)(h:k<=l.length):val ((l.set (k-1) d).drop (k-1))=d+1000000000*val (l.drop k):=by
 rw[ru hk (by simpa using h),qE ω,Ac ω]
theorem zW{a o:List Nat}{k b r t q:Nat}(hk:0<k)(ha:k<=a.length)(ho:k<=o.length)(h:val (a.drop k)=b*val (o.drop k)+r)(ht:t=r*1000000000+a.getD (k-1) 0)(hq:q=t/b):
 val (a.drop (k-1))=b*val ((o.set (k-1) q).drop (k-1))+t%b:=by
 subst hq;rw[sU hk ho,ru hk ha,h];have h1:=Nat.div_add_mod t b;have h3:b*(t/b+1000000000*val (o.drop k))=b*(t/b)+b*(1000000000*val (o.drop k)):=EN ..;rw[h3];have h2:b*(1000000000*val (o.drop k))=1000000000*(b*val (o.drop k)):=by rw[<-Zt,Gx b,Zt]
 rw[h2];omega
theorem Fh{r b x t:Nat}(hr:r<b)(hb:b<1000000000)(hx:x<1000000000)(ht:t=r*1000000000+x):t/b<1000000000/\t%b<b/\t<1000000000000000000:=by
 refine⟨?_,qx _ ω,ω⟩;rw[Nat.div_lt_iff_lt_mul ω];have:r*1000000000+x<b*1000000000:=ω
 rw[Gx 1000000000 b];omega
theorem kY{n k:Nat}(h:n<1000000000^k):(lim n).length<=k:=by
 rcases Ju k (lim n).length with hlt|hge
 .exfalso;have h1:=IC (CanL.lim n) (by intro e;rw[e]at hlt;simp at hlt);rw[aX]at h1;have h2:1000000000^k<=1000000000^((lim n).length-1):=Gi ω ω;omega
 .exact hge
theorem wF{n k:Nat}(h:(lim n).length<=k):n<1000000000^k:=by
 have h1:=iG (lim n) (bJ n);rw[aX]at h1;exact Ea h1 (Gi ω h)
theorem aaO{n:Nat}(h:(lim n).length=2):(lim n).getD 1 0*1000000000+(lim n).getD 0 0=n:=by
 have h1:=aX n
 match hl:lim n,h with
 |[x,y],_=>rw[hl]at h1;simp[val]at h1 ⊢;omega
theorem ZQ{n:Nat}(h:(lim n).length=1):(lim n).getD 0 0=n:=by
 have h1:=aX n
 match hl:lim n,h with
 |[x],_=>rw[hl]at h1;simp[val]at h1 ⊢;omega
theorem eH{n:Nat}:(lim n).length=0↔n=0:=by rw[List.length_eq_zero_iff];exact I5
def gW(neg:Bool)(n:Nat):Int:=if neg then -(n:Int)else n
theorem ql(neg:Bool)(n:Nat):(gW neg n).natAbs=n:=by cases neg<;>simp[gW]
theorem BQ(neg:Bool)(n:Nat):decide (gW neg n<0)=(neg&&decide (0<n)):=by cases neg<;>simp[gW]
theorem aay(x:Int):gW (decide (x<0)) x.natAbs=x:=by
 unfold gW
 by_cases h:x<0<;>simp[h]<;>omega
def sz(x:Int):Nat:=(lim x.natAbs).length
def kF(a b:Int):Int:=if a<b then -1 else if b<a then 1 else 0
def qj(a:Int):Int:=if a<0 then -1 else if a=0 then 0 else 1
theorem Yy{a b:Int}(ha:a<0)(hb:b<0):kF a b=iy b.natAbs a.natAbs:=by
 unfold kF iy;have h1:(a<b)↔(b.natAbs<a.natAbs):=ω
 have h2:(b<a)↔(a.natAbs<b.natAbs):=ω
 simp only[h1,h2]
theorem VQ{a b:Int}(ha:¬ a<0)(hb:¬ b<0):kF a b=iy a.natAbs b.natAbs:=by
 unfold kF iy;have h1:(a<b)↔(a.natAbs<b.natAbs):=ω
 have h2:(b<a)↔(b.natAbs<a.natAbs):=ω
 simp only[h1,h2]
theorem aby{a b:Int}(h:a<b):kF a b = -1:=by simp[kF,h]
theorem ZH{a b:Int}(h:b<a):kF a b=1:=by unfold kF;rw[if_neg ω,if_pos h]
theorem DW{a b:Int}:kF a b<0↔a<b:=by unfold kF;split<;>(try split)<;>omega
theorem Ce{a b:Int}:kF a b>0↔b<a:=by unfold kF;split<;>(try split)<;>omega
theorem J5{a b:Int}:kF a b=0↔a=b:=by unfold kF;split<;>(try split)<;>omega
theorem uy{a b:Nat}:iy a b<0↔a<b:=by unfold iy;split<;>(try split)<;>omega
theorem oW{a b:Nat}:iy a b>=0↔b<=a:=by unfold iy;split<;>(try split)<;>omega
theorem Xu{a b:Nat}:iy a b=0↔a=b:=by unfold iy;split<;>(try split)<;>omega
theorem JU{a b:Int}(h:decide (a<0)=decide (b<0)):gW (decide (a<0)) (a.natAbs+b.natAbs)=a+b:=by
 have h':(a<0)↔(b<0):=by simpa using h
 unfold gW
 by_cases ha:a<0
 .have:=h'.1 ha;simp[ha];omega
 .have:¬ b<0:=λhb=>ha (h'.2 hb);simp[ha];omega
theorem xR{a b:Int}(h:¬ decide (a<0)=decide (b<0))(hle:b.natAbs<=a.natAbs):gW (decide (a<0)) (a.natAbs-b.natAbs)=a+b:=by
 have h':¬((a<0)↔(b<0)):=λe=>h (by simpa using e)
 unfold gW
 by_cases ha:a<0
 .have:¬ b<0:=λhb=>h' ⟨λ_=>hb,λ_=>ha⟩;simp[ha];omega
 .have:b<0:=by
   by_cases hb:b<0
   .exact hb
   .exact absurd ⟨λx=>absurd x ha,λx=>absurd x hb⟩ h'
  simp[ha];omega
theorem MH(a b:Int):gW (decide (a<0) != decide (b<0)) (a.natAbs*b.natAbs)=a*b:=by
 have e:((a.natAbs*b.natAbs:Nat):Int)=(a.natAbs:Int)*(b.natAbs:Int):=by simp
 by_cases ha:a<0<;>by_cases hb:b<0
 .have h1:(a.natAbs:Int) = -a:=ω
  have h2:(b.natAbs:Int) = -b:=ω
  simp only[gW,ha,hb];simp only[bne_self_eq_false,eF,if_false,e,h1,h2,Int.neg_mul_neg]
 .have h1:(a.natAbs:Int) = -a:=ω
  have h2:(b.natAbs:Int)=b:=ω
  simp[gW,ha,hb,e,h1,h2,Int.neg_mul]
 .have h1:(a.natAbs:Int)=a:=ω
  have h2:(b.natAbs:Int) = -b:=ω
  simp[gW,ha,hb,e,h1,h2,Int.mul_neg]
 .have h1:(a.natAbs:Int)=a:=ω
  have h2:(b.natAbs:Int)=b:=ω
  simp[gW,ha,hb,e,h1,h2]
theorem WT(a:Int):gW (!decide (a<0)) a.natAbs = -a:=by
 unfold gW
 by_cases h:a<0<;>simp[h]<;>omega
theorem jv{a b:Nat}(h:a<=b):(lim a).length<=(lim b).length:=by
 rcases Ju (lim b).length (lim a).length with hlt|hge
 .have:=jk (CanL.lim b) (CanL.lim a) hlt;rw[aX,aX]at this;omega
 .exact hge
open Go
theorem uI(n:Nat):n<1000000000^(lim n).length:=by
 have:=iG (lim n) (bJ n)
 rwa [aX]at this
theorem F8{x:Int}{k:Nat}(h:x.natAbs<1000000000^k):sz x<=k:=kY h
theorem kE(a b:Int):sz (a+b)<=sz a+sz b+1:=by
 apply F8;have ha:=uI a.natAbs;have hb:=uI b.natAbs;change a.natAbs<1000000000^sz a at ha;change b.natAbs<1000000000^sz b at hb;have h1:1000000000^sz a<=1000000000^(sz a+sz b):=Gi ψ ω;have h2:1000000000^sz b<=1000000000^(sz a+sz b):=Gi ψ ω;rw[EU];omega
theorem jc(a b:Int):sz (a*b)<=sz a+sz b:=by
 apply F8;have ha:=uI a.natAbs;have hb:=uI b.natAbs;change a.natAbs<1000000000^sz a at ha;change b.natAbs<1000000000^sz b at hb;rw[Int.natAbs_mul,Nat.pow_add];rcases yD a.natAbs with h|h
 .rw[h,Nat.zero_mul];exact Nat.mul_pos (Nat.pow_pos ψ) (Nat.pow_pos ψ)
 .exact Nat.mul_lt_mul_of_lt_of_lt ha hb
theorem iD(a:Int):sz (-a)=sz a:=by unfold sz;rw[Int.natAbs_neg]
theorem oz(a b:Int):sz (a-b)<=sz a+sz b+1:=by
 have:=kE a (-b);rw[iD]at this
 rwa [Int.sub_eq_add_neg]
theorem jP{n:Int}(h1 : -9223372036854775808<=n)(h2:n<=9223372036854775807):sz n<=3:=F8 ω
theorem ku{a b:Int}(h:a.natAbs<=b.natAbs):sz a<=sz b:=jv h
theorem Zc{x:Int}(h:x<0):gW true x.natAbs=x:=by
 unfold gW;rw[if_pos rfl];omega
theorem X3{x:Int}(h:¬ x<0):gW false x.natAbs=x:=by
 unfold gW;rw[if_neg ψ];omega
end Go.Sw
