/-
  Roots are totally ordered; no cut reaches below its ends; the least height of several cuts.
  Lists of cuts, as the runs make them.
  What the functions swarfref52.pos, swarfref52.Of, swarflaw52.is, swarfref52.Dominated, material.Dominated answer, each out of its text by the abstract run.
  Writing to a variable that the caller hands on.
  Leaves of the runs of the order of roots.
  What the functions radical.plain, radical.copied, radical.Sub, radical.apart answer, each out of its text by the abstract run.
  What the functions radical.quick answer, each out of its text by the abstract run.
  What the functions radical.Sign$1, radical.Sign, radical.Cmp, radical.CmpRat answer, each out of its text by the abstract run.
  Roots are totally ordered; the order respects sums and products with a common radicand.
  What the functions root.common, root.norm, root.Sign, root.Add, root.Mul, swarfref03.Of answer, each out of its text by the abstract run.
  What the functions answer, each out of its text by the abstract run.
  What the functions answer, each out of its text by the abstract run.
  What the functions answer, each out of its text by the abstract run.
  What the functions answer, each out of its text by the abstract run.
  What the functions answer, each out of its text by the abstract run.
  Conditions: none.
-/
import Derived.Test.YtbbfmlhkgceabaaGreatM12
set_option linter.all false
namespace Go.Sw
open Go
set_option linter.unusedVariables false
theorem mkC_nn{b c:Rat}(h:0≤c):0≤mkC b c:=okQ_nn (okQ_mk (b:=b) h)
end Go.Sw
namespace Go.Sw
open Go
set_option linter.unusedVariables false
section
variable {cf cg ct cu bf bg bt bu x y:Rat} {cfz ctz cr bfz btz br:Int}
end
end Go.Sw
namespace Go.Proofs.YtbbfmlhkgceabaaGreat
open Go Go.RowKit Go.Sw
set_option linter.unusedVariables false
set_option maxRecDepth 100000
set_option maxHeartbeats 8000000
set_option synthInstance.maxSize 4000
set_option synthInstance.maxHeartbeats 400000
end Go.Proofs.YtbbfmlhkgceabaaGreat
namespace Go.Sw
open Go Go.RowKit
set_option linter.unusedVariables false
theorem setRow_sz(w:World)(g:Nat)(cs:Array Value):(w.setRow g cs).heap.size=w.heap.size:=by simp [World.setRow]
theorem St.over{w0 w:World}{S:List Bx}(h:St w0 w S){g:Nat}(cs:Array Value)(hg:g<w0.heap.size):St (w0.setRow g cs) (w.setRow g cs) S:=by
 refine ⟨⟨h.below.os,h.below.tape,h.below.output,by rw [setRow_sz,setRow_sz];exact h.below.size,λk hk=>?_⟩,λb hb=>?_,h.nd⟩
 ·rw [setRow_sz] at hk
  have hb:=h.below.block k hk
  by_cases e:k=g
  ·subst e
   simp [World.setRow,Array.getElem?_modify,hb]
  ·rw [setRow_other _ _ _ _ e,setRow_other _ _ _ _ e];exact hb
 ·obtain ⟨h1,h2⟩:=h.box b hb
  rw [setRow_sz,setRow_other _ _ _ _ (by omega)]
  exact ⟨h1,h2⟩
theorem St.grown{w0 w:World}{S:List Bx}{g:Nat}{cs:Array Value}(h:St (w0.setRow g cs) w S):w0.grownBy w (some g):=by
 refine ⟨h.below.os,h.below.tape,h.below.output,by have:=h.below.size;rwa [setRow_sz] at this,λk hk hn=>?_⟩
 have:=h.below.block k (by rw [setRow_sz];exact hk)
 rw [this,setRow_other _ _ _ _ (λe=>hn (by rw [e]))]
section
variable {P:Program} {Q:Exit→Act→World→Prop} {a:Act} {w:World} {K:Act→World→Prop} {N:Nat} {L:List (Nat × Value)} {ρ:Operand→Value} {d:Option Nat}
variable {ty:TypeId} {pos:String} {af:Array Edge} {gd:Option (Nat × Bool)}
theorem ex_nilc{x:Operand}{ad:Addr}(hx:ρ x=.pointer (some ad)):(execOp ρ ⟨d,.nilCheck x,ty,pos,af,gd⟩).run P w=.ok (.value (.pointer (some ad))) w:=by simp [execOp,hx]
theorem op_storeg{t T:TypeId}{x y:Operand}{g off:Nat}{v:Value}{vs cs:Array Value}(hF:Frm N a L)(hg:w.heap[g]?=some (.cells cs T (0,0)))
 (hx:ev L x=some (.pointer (some ⟨g,off,none⟩))) (hy:ev L y=some v) (hv:v.cells=vs) (hsz:(P.info? t).map (·.size)=some vs.size) (h1:vs.toList.all Value.oneCell'=true) (hfit:off+vs.size≤cs.size)
 (k:K a (w.setRow g (splice cs off vs))):Oper.wp P ⟨none,.store t x y,ty,pos,af,gd⟩ a w K Q:=by
 unfold Oper.wp
 have hr:(execOp a.eval ⟨none,.store t x y,ty,pos,af,gd⟩).run P w=.ok .skip (w.setRow g (splice cs off vs)):=by
  simp [execOp,hF.ev hx,hF.ev hy,run_storeAt hv hsz h1 hg hfit]
 rw [hr]
 simp only [Oper.upon,Act.put]
 exact k
end
theorem RepC.v_eq{w:World}{X:List Nat}{u v:Value}(h:RepC w X u (.v v)):u=v:=by cases h;rfl
theorem RepL.v1{w:World}{X:List Nat}{us:List Value}{a:Value}(h:RepL w X us [.v a]):us=[a]:=by
 obtain ⟨r,rfl,h⟩:=h.vcons
 have:=h.len
 cases r with
 |nil=>rfl
 |cons=>simp at this
theorem RepL.v2{w:World}{X:List Nat}{us:List Value}{a b:Value}(h:RepL w X us [.v a,.v b]):us=[a,b]:=by
 obtain ⟨r,rfl,k⟩:=h.vcons
 exact congrArg (List.cons a) k.v1
theorem RepL.of2{w:World}{X:List Nat}{a b:Value}(h1:a.oneCell'=true)(h2:b.oneCell'=true):RepL w X [a,b] [.v a,.v b]:=.cons (.v _ h1) (.cons (.v _ h2) (.nil _ _))
theorem RepD.agg_v2{w:World}{X:List Nat}{u a b:Value}(h:RepD w X u (.agg [.v a,.v b])):u=.agg #[a,b]:=by
 cases h with
 |agg h=>rw [h.v2]
theorem RepD.v_eq{w:World}{X:List Nat}{u a:Value}(h:RepD w X u (.c (.v a))):u=a:=by
 cases h with
 |c h=>exact h.v_eq
end Go.Sw
namespace Go.Sw
open Go
set_option linter.unusedVariables false
section
variable {a b c d e f m n:Rat}
theorem pl_1(h:sgnR b*sgnR c=0):packA [AV.c (Cell.v (.int .i64 (sgnR a)))]=AV.int .i64 (exI a b c):=iE (by unfold exI;rw [if_pos (.inr h)])
theorem pl_2(h:sgnR a=sgnR b*sgnR c):packA [AV.c (Cell.v (.int .i64 (sgnR a)))]=AV.int .i64 (exI a b c):=iE (by unfold exI;rw [if_pos (.inl h)])
theorem pl_3(h1:¬sgnR b*sgnR c=0)(h2:¬sgnR a=sgnR b*sgnR c)(h3:a=0):packA [AV.c (Cell.v (.int .i64 (sgnR b*sgnR c)))]=AV.int .i64 (exI a b c):=iE (by
 unfold exI;rw [if_neg (by rintro (h|h);exact h2 h;exact h1 h),if_pos (by rw [h3];rfl)])
theorem pl_4(h1:¬sgnR b*sgnR c=0)(h2:¬sgnR a=sgnR b*sgnR c)(h3:¬a=0):packA [AV.c (Cell.v (.int .i64 (sgnR a*cmpR (a*a) (b*b*c))))]=AV.int .i64 (exI a b c):=tw_4 h3 h1 h2
theorem qk_n(h:¬Qk a b c d m n):packA [AV.c (Cell.v (.int .i64 0)),AV.c (Cell.v (.bool false))]=AV.tup [AV.int .i64 (quickA a b c d m n).1,AV.bool (quickA a b c d m n).2]:=by
 rw [quickA_n h];rfl
theorem rsg_1(hm:0≤m)(hn:0≤n)(h:(quickA a b c d m n).2=true):packA [AV.c (Cell.v (.int .i64 (quickA a b c d m n).1))]=AV.int .i64 (sg4 a b c d m n):=iE (quickA_sg hm hn h)
theorem cp_1(hc:0≤c)(hf:0≤f)(h1:b=0)(h2:e=0):packA [AV.c (Cell.v (.int .i64 (cmpR a d)))]=AV.int .i64 (cmp4 a b c d e f):=by
 subst h1 h2;exact iE (cmp4_rat hc hf).symm
theorem cp_2(hc:0≤c)(hf:0≤f)(h:(apartI (rootI a b c) (rootI d e f)).2=true):packA [AV.c (Cell.v (.int .i64 (apartI (rootI a b c) (rootI d e f)).1))]=AV.int .i64 (cmp4 a b c d e f):=iE (apartI_cmp hc hf h)
theorem cp_3(hc:0≤c)(h:c=f):packA [AV.c (Cell.v (.int .i64 (exI (a-d) (b-e) c)))]=AV.int .i64 (cmp4 a b c d e f):=by
 subst h;exact iE (cmp4_one hc).symm
theorem ap_n1(h:(rootI a b c).isSome=false):packA [AV.c (Cell.v (.int .i64 0)),AV.c (Cell.v (.bool false))]=AV.tup [AV.int .i64 (apartI (rootI a b c) (rootI d e f)).1,AV.bool (apartI (rootI a b c) (rootI d e f)).2]:=by
 cases hq:rootI a b c with
 |none=>rfl
 |some x=>rw [hq] at h;cases h
theorem ap_n2(h:(rootI d e f).isSome=false):packA [AV.c (Cell.v (.int .i64 0)),AV.c (Cell.v (.bool false))]=AV.tup [AV.int .i64 (apartI (rootI a b c) (rootI d e f)).1,AV.bool (apartI (rootI a b c) (rootI d e f)).2]:=by
 cases hq:rootI d e f with
 |none=>cases hr:rootI a b c<;>rfl
 |some x=>rw [hq] at h;cases h
theorem ap_lt(h1:(rootI a b c).isSome=true)(h2:(rootI d e f).isSome=true)(h:((rootI a b c).getD (0,0)).2<((rootI d e f).getD (0,0)).1):
 packA [AV.c (Cell.v (.int .i64 (-1))),AV.c (Cell.v (.bool true))]=AV.tup [AV.int .i64 (apartI (rootI a b c) (rootI d e f)).1,AV.bool (apartI (rootI a b c) (rootI d e f)).2]:=by
 cases hq:rootI a b c with
 |none=>rw [hq] at h1;cases h1
 |some x=>cases hr:rootI d e f with
  |none=>rw [hr] at h2;cases h2
  |some y=>rw [hq,hr] at h;unfold apartI;simp only [Option.getD_some] at *;rw [if_pos h];rfl
theorem ap_gt(h1:(rootI a b c).isSome=true)(h2:(rootI d e f).isSome=true)(h0:¬((rootI a b c).getD (0,0)).2<((rootI d e f).getD (0,0)).1)(h:((rootI a b c).getD (0,0)).1 > ((rootI d e f).getD (0,0)).2):
 packA [AV.c (Cell.v (.int .i64 1)),AV.c (Cell.v (.bool true))]=AV.tup [AV.int .i64 (apartI (rootI a b c) (rootI d e f)).1,AV.bool (apartI (rootI a b c) (rootI d e f)).2]:=by
 cases hq:rootI a b c with
 |none=>rw [hq] at h1;cases h1
 |some x=>cases hr:rootI d e f with
  |none=>rw [hr] at h2;cases h2
  |some y=>rw [hq,hr] at h h0;unfold apartI;simp only [Option.getD_some] at *;rw [if_neg h0,if_pos h];rfl
theorem ap_no(h1:(rootI a b c).isSome=true)(h2:(rootI d e f).isSome=true)(h0:¬((rootI a b c).getD (0,0)).2<((rootI d e f).getD (0,0)).1)(h:¬((rootI a b c).getD (0,0)).1 > ((rootI d e f).getD (0,0)).2):
 packA [AV.c (Cell.v (.int .i64 0)),AV.c (Cell.v (.bool false))]=AV.tup [AV.int .i64 (apartI (rootI a b c) (rootI d e f)).1,AV.bool (apartI (rootI a b c) (rootI d e f)).2]:=by
 cases hq:rootI a b c with
 |none=>rw [hq] at h1;cases h1
 |some x=>cases hr:rootI d e f with
  |none=>rw [hr] at h2;cases h2
  |some y=>rw [hq,hr] at h h0;unfold apartI;simp only [Option.getD_some] at *;rw [if_neg h0,if_neg h];rfl
end
end Go.Sw
namespace Go.Proofs.YtbbfmlhkgceabaaGreat
open Go Go.RowKit Go.Sw
set_option linter.unusedVariables false
set_option maxRecDepth 100000
set_option maxHeartbeats 8000000
set_option synthInstance.maxSize 4000
set_option synthInstance.maxHeartbeats 400000
theorem off157_0:fieldOff Tryz.prog 142 0=some 0:=by kernel_rfl
theorem one4:isOne Tryz.prog 4=true:=by kernel_rfl
theorem row139:isRow Tryz.prog 49 2=true:=by kernel_rfl
theorem with_true{w:World}{X:List Nat}{g:Nat}{T:TypeId}{l h:Int}{q:Bool}(hX:∀m∈X,m<w.heap.size)(hg:w.heap[g]?=some (.cells #[.bool true] T (0,0))):
 Calls Tryz.prog 99 #[.pointer (some ⟨g,0,none⟩),.agg #[.int .i64 l,.int .i64 h],.bool q] w (Ret λu w'=>RepR w' X u (.agg [.v (.int .i64 l),.v (.int .i64 h)])∧w.grownBy w' (some g)∧∃us':List Value,w'.heap[g]?=some (.cells us'.toArray T (0,0))∧RepL w' X us' [.v (.bool q)]):=by
 have hgw:g<w.heap.size:=by
  rcases Nat.lt_or_ge g w.heap.size with k|k
  ·exact k
  ·rw [Array.getElem?_eq_none k] at hg;cases hg
 refine enter (N:=18) (fn:=Tryz.f99) (vs:=[.pointer (some ⟨g,0,none⟩),.agg #[.int .i64 l,.int .i64 h],.bool q]) Tryz.func99 rfl rfl rfl ?_
 intro fa hF
 replace hF:Frm 18 fa [(0,.pointer (some ⟨g,0,none⟩)),(1,.agg #[.int .i64 l,.int .i64 h]),(2,.bool q)]:=hF
 have hS:=St.refl w
 refine c_seq ?_
 refine c_reg ?_
 refine st rfl (op_box (X:=X) hF hS rfl rfl rfl ?_)
 intro g1 w2 hg4 hS E3;refine gen_ ?_;clear hF fa;intro fa hF
 replace hS:St w w2 [(g1,49,#[.int .i64 l,.int .i64 h])]:=hS
 refine st rfl (op_alloc (X:=(g1 :: X)) hF hS rfl (show zeroOf Tryz.prog 49=some #[.int .i64 0,.int .i64 0] by kernel_rfl) ?_)
 intro g5 w6 hg8 hS E7;refine gen_ ?_;clear hF fa;intro fa hF
 replace hS:St w w6 [(g5,49,#[.int .i64 0,.int .i64 0]),(g1,49,#[.int .i64 l,.int .i64 h])]:=hS
 have hg6:w6.heap[g]?=some (.cells #[.bool true] T (0,0)):=by rw [hS.below.block g hgw];exact hg
 refine c_nil_then ?_
 refine c_seq ?_
 refine c_reg ?_
 refine st_val hF rfl rfl rfl (ex_move (hF.ev rfl)) ?_
 clear hF fa;intro fa hF
 refine st_val hF rfl rfl rfl (ex_move (hF.ev rfl)) ?_
 clear hF fa;intro fa hF
 refine st_val hF rfl rfl rfl (ex_nilc (hF.ev rfl)) ?_
 clear hF fa;intro fa hF
 refine st_val hF rfl rfl rfl (ex_field_addr off157_0 (hF.ev rfl)) ?_
 clear hF fa;intro fa hF
 refine st_val hF rfl rfl rfl (ex_load1b one4 (hF.ev rfl) hg6 rfl) ?_
 clear hF fa;intro fa hF
 refine st_val hF rfl rfl rfl (ex_move (hF.ev rfl)) ?_
 clear hF fa;intro fa hF
 refine stg_val hF rfl rfl rfl rfl (ex_move (hF.ev rfl)) ?_
 clear hF fa;intro fa hF
 refine st_val hF rfl rfl rfl (ex_pick (hF.ev rfl) (λ_=>hF.ev rfl) (v:=undef) (λh=>by cases h) rfl) ?_
 clear hF fa;intro fa hF
 refine st_val hF rfl rfl rfl (ex_nilc (hF.ev rfl)) ?_
 clear hF fa;intro fa hF
 refine st_val hF rfl rfl rfl (ex_field_addr off157_0 (hF.ev rfl)) ?_
 clear hF fa;intro fa hF
 refine st rfl (op_storeg (vs:=#[.bool q]) hF hg6 rfl rfl rfl (show (Tryz.prog.info? 4).map (λi=>i.size)=some 1 by kernel_rfl) rfl (Nat.le_of_ble_eq_true rfl) ?_)
 replace hS:=hS.over (splice #[.bool true] 0 #[.bool q]) hgw
 have hg7:(w6.setRow g (splice #[.bool true] 0 #[.bool q])).heap[g]?=some (.cells #[.bool q] T (0,0)):=setRow_heap w6 g _ _ T _ hg6
 generalize w6.setRow g (splice #[.bool true] 0 #[.bool q])=w7 at *
 refine c_nil_then ?_
 refine c_seq ?_
 refine c_reg ?_
 refine st_val hF rfl rfl rfl (ex_loadb row139 (hF.ev rfl) (hS.get 1 rfl) rfl) ?_
 clear hF fa;intro fa hF
 refine st rfl (op_store (X:=(g5 :: (g1 :: X))) hF hS 0 rfl (by simp) rfl rfl rfl (show (Tryz.prog.info? 49).map (λi=>i.size)=some 2 by kernel_rfl) rfl (Nat.le_of_ble_eq_true rfl) ?_)
 intro w8 hS E9
 have hg8':w8.heap[g]?=some (.cells #[.bool q] T (0,0)):=by rw [hS.below.block g (by rw [setRow_sz];exact hgw),setRow_heap w g _ _ T _ hg];rfl
 replace hS:St (w.setRow g (splice #[.bool true] 0 #[.bool q])) w8 [(g5,49,#[.int .i64 l,.int .i64 h]),(g1,49,#[.int .i64 l,.int .i64 h])]:=hS
 refine c_nil_then ?_
 refine c_ret ?_
 refine end1 hF rfl (res_cell hF rfl row139 (hS.get 0 rfl) rfl) ?_
 exact ⟨_,rfl,.d (.agg (.of2 rfl rfl)),hS.grown,[.bool q],hg8',.cons (.v _ rfl) (.nil _ _)⟩
theorem with_false{w:World}{X:List Nat}{g:Nat}{T:TypeId}{l h:Int}{q:Bool}(hX:∀m∈X,m<w.heap.size)(hg:w.heap[g]?=some (.cells #[.bool false] T (0,0))):
 Calls Tryz.prog 99 #[.pointer (some ⟨g,0,none⟩),.agg #[.int .i64 l,.int .i64 h],.bool q] w (Ret λu w'=>RepR w' X u (.agg [.v (.int .i64 l),.v (.int .i64 h)])∧w.grownBy w' (some g)∧∃us':List Value,w'.heap[g]?=some (.cells us'.toArray T (0,0))∧RepL w' X us' [.v (.bool false)]):=by
 have hgw:g<w.heap.size:=by
  rcases Nat.lt_or_ge g w.heap.size with k|k
  ·exact k
  ·rw [Array.getElem?_eq_none k] at hg;cases hg
 refine enter (N:=18) (fn:=Tryz.f99) (vs:=[.pointer (some ⟨g,0,none⟩),.agg #[.int .i64 l,.int .i64 h],.bool q]) Tryz.func99 rfl rfl rfl ?_
 intro fa hF
 replace hF:Frm 18 fa [(0,.pointer (some ⟨g,0,none⟩)),(1,.agg #[.int .i64 l,.int .i64 h]),(2,.bool q)]:=hF
 have hS:=St.refl w
 refine c_seq ?_
 refine c_reg ?_
 refine st rfl (op_box (X:=X) hF hS rfl rfl rfl ?_)
 intro g1 w2 hg4 hS E3;refine gen_ ?_;clear hF fa;intro fa hF
 replace hS:St w w2 [(g1,49,#[.int .i64 l,.int .i64 h])]:=hS
 refine st rfl (op_alloc (X:=(g1 :: X)) hF hS rfl (show zeroOf Tryz.prog 49=some #[.int .i64 0,.int .i64 0] by kernel_rfl) ?_)
 intro g5 w6 hg8 hS E7;refine gen_ ?_;clear hF fa;intro fa hF
 replace hS:St w w6 [(g5,49,#[.int .i64 0,.int .i64 0]),(g1,49,#[.int .i64 l,.int .i64 h])]:=hS
 have hg6:w6.heap[g]?=some (.cells #[.bool false] T (0,0)):=by rw [hS.below.block g hgw];exact hg
 refine c_nil_then ?_
 refine c_seq ?_
 refine c_reg ?_
 refine st_val hF rfl rfl rfl (ex_move (hF.ev rfl)) ?_
 clear hF fa;intro fa hF
 refine st_val hF rfl rfl rfl (ex_move (hF.ev rfl)) ?_
 clear hF fa;intro fa hF
 refine st_val hF rfl rfl rfl (ex_nilc (hF.ev rfl)) ?_
 clear hF fa;intro fa hF
 refine st_val hF rfl rfl rfl (ex_field_addr off157_0 (hF.ev rfl)) ?_
 clear hF fa;intro fa hF
 refine st_val hF rfl rfl rfl (ex_load1b one4 (hF.ev rfl) hg6 rfl) ?_
 clear hF fa;intro fa hF
 refine st_val hF rfl rfl rfl (ex_move (hF.ev rfl)) ?_
 clear hF fa;intro fa hF
 refine st_skip hF rfl rfl rfl rfl rfl ?_
 clear hF fa;intro fa hF
 refine st_val hF rfl rfl rfl (ex_pick (hF.ev rfl) (u:=undef) (λh=>by cases h) (λ_=>hF.ev rfl) rfl) ?_
 clear hF fa;intro fa hF
 refine st_val hF rfl rfl rfl (ex_nilc (hF.ev rfl)) ?_
 clear hF fa;intro fa hF
 refine st_val hF rfl rfl rfl (ex_field_addr off157_0 (hF.ev rfl)) ?_
 clear hF fa;intro fa hF
 refine st rfl (op_storeg (vs:=#[.bool false]) hF hg6 rfl rfl rfl (show (Tryz.prog.info? 4).map (λi=>i.size)=some 1 by kernel_rfl) rfl (Nat.le_of_ble_eq_true rfl) ?_)
 replace hS:=hS.over (splice #[.bool false] 0 #[.bool false]) hgw
 have hg7:(w6.setRow g (splice #[.bool false] 0 #[.bool false])).heap[g]?=some (.cells #[.bool false] T (0,0)):=setRow_heap w6 g _ _ T _ hg6
 generalize w6.setRow g (splice #[.bool false] 0 #[.bool false])=w7 at *
 refine c_nil_then ?_
 refine c_seq ?_
 refine c_reg ?_
 refine st_val hF rfl rfl rfl (ex_loadb row139 (hF.ev rfl) (hS.get 1 rfl) rfl) ?_
 clear hF fa;intro fa hF
 refine st rfl (op_store (X:=(g5 :: (g1 :: X))) hF hS 0 rfl (by simp) rfl rfl rfl (show (Tryz.prog.info? 49).map (λi=>i.size)=some 2 by kernel_rfl) rfl (Nat.le_of_ble_eq_true rfl) ?_)
 intro w8 hS E9
 have hg8':w8.heap[g]?=some (.cells #[.bool false] T (0,0)):=by rw [hS.below.block g (by rw [setRow_sz];exact hgw),setRow_heap w g _ _ T _ hg];rfl
 replace hS:St (w.setRow g (splice #[.bool false] 0 #[.bool false])) w8 [(g5,49,#[.int .i64 l,.int .i64 h]),(g1,49,#[.int .i64 l,.int .i64 h])]:=hS
 refine c_nil_then ?_
 refine c_ret ?_
 refine end1 hF rfl (res_cell hF rfl row139 (hS.get 0 rfl) rfl) ?_
 exact ⟨_,rfl,.d (.agg (.of2 rfl rfl)),hS.grown,[.bool false],hg8',.cons (.v _ rfl) (.nil _ _)⟩
instance x_with(p q:Bool)(l h:Int):DenI Tryz.prog 99 [.tup [.agg [.v (.bool p)]],.agg [.v (.int .i64 l),.v (.int .i64 h)],.bool q] True (.tup [.agg [.v (.bool (p && q))],.agg [.v (.int .i64 l),.v (.int .i64 h)]]) :=
 ⟨λ_=>⟨by kernel_rfl,λw X g T us vs hX hg hU hl hv=>by
  match vs,hl with
  |[u,v],_ =>
   have e1:=(hv 0 u _ rfl rfl).agg_v2
   have e2:=(hv 1 v _ rfl rfl).v_eq
   have e3:=hU.v1
   subst e1 e2 e3
   cases p with
   |true=>exact with_true hX hg
   |false=>exact with_false hX hg⟩⟩
instance x_plain(a b c:Rat):DenI Tryz.prog 20 [R a,R b,R c] (rz a≤3300000∧rz b≤3300000∧rz c≤3300000) (.int .i64 (exI a b c)):=⟨λhp=>by
 have i_a:RzB a 3300000:=⟨hp.1⟩
 have i_b:RzB b 3300000:=⟨hp.2.1⟩
 have i_c:RzB c 3300000:=⟨hp.2.2⟩
 all_goals refine den_of (τ:=tab) tab_ok mixed_ Tryz.func20 rfl (by kernel_rfl) (by kernel_rfl) (by kernel_rfl) ?_
 all_goals (repeat' ((try (conv=>whnf));first
  |refine call_0 ?_
  |refine call_i ?_ ?_
  |refine call_c ?_ (λ_=>?_) (λ_=>?_)
  |(with_reducible refine onB_t ?_)
  |(with_reducible refine onB_f ?_)
  |(with_reducible refine onB_d (λ_=>?_) (λ_=>?_))
  |(with_reducible refine onB_n (λ_=>?_) (λ_=>?_))
  |refine OnB.mk (λ_=>?_) (λ_=>?_)
  |refine obl_i ?_ ?_
  |refine Drw.mk (by kernel_rfl) ?_
  |refine mks_i ?_ ?_
  |refine slp_i ?_ ?_
  |(with_reducible refine elem_u ?_ ?_)
  |(with_reducible refine elem_0 ?_)
  |(with_reducible refine elem_1 ?_)
  |refine Ends.mk ?_))
 all_goals (try refine Pr.mk ?_)
 all_goals (try simp only [nrm_] at *)
 all_goals (try simp only [w_ss,w_sc,w_xs,w_xx] at *)
 all_goals first
  |contradiction
  |with_reducible exact pl_1 (by assumption)
  |with_reducible exact pl_2 (by assumption)
  |with_reducible exact pl_3 (by assumption) (by assumption) (by assumption)
  |with_reducible exact pl_4 (by assumption) (by assumption) (by assumption)
  |((repeat' apply And.intro)<;>first|assumption|exact rzb (by omega)|exact szb (by omega)|exact Int.mul_ne_zero (den_ne _) (den_ne _))
  |skip⟩
instance x_copied(a:Rat):DenI Tryz.prog 58 [R a] (rz a≤4000000) (R a):=⟨λhp=>by
 have i_a:RzB a 4000000:=⟨hp⟩
 all_goals refine den_of (τ:=tab) tab_ok mixed_ Tryz.func58 rfl (by kernel_rfl) (by kernel_rfl) (by kernel_rfl) ?_
 all_goals (repeat' ((try (conv=>whnf));first
  |refine call_0 ?_
  |refine call_i ?_ ?_
  |refine call_c ?_ (λ_=>?_) (λ_=>?_)
  |(with_reducible refine onB_t ?_)
  |(with_reducible refine onB_f ?_)
  |(with_reducible refine onB_d (λ_=>?_) (λ_=>?_))
  |(with_reducible refine onB_n (λ_=>?_) (λ_=>?_))
  |refine OnB.mk (λ_=>?_) (λ_=>?_)
  |refine obl_i ?_ ?_
  |refine Drw.mk (by kernel_rfl) ?_
  |refine mks_i ?_ ?_
  |refine slp_i ?_ ?_
  |(with_reducible refine elem_u ?_ ?_)
  |(with_reducible refine elem_0 ?_)
  |(with_reducible refine elem_1 ?_)
  |refine Ends.mk ?_))
 all_goals (try refine Pr.mk ?_)
 all_goals (try simp only [nrm_] at *)
 all_goals first
  |exact congrArg R (Rat.neg_neg a)
  |rfl
  |(simp only [redB,redC,mkA,mkB,mkC,cooC,ptC, *,true_or,or_true,if_true,if_false,or_self,and_self,and_true,true_and,and_false,false_and,not_true,not_false_iff,Bool.false_eq_true,decide_true,decide_false,Bool.or_true,Bool.true_or,Bool.or_false,Bool.false_or];rfl)
  |((repeat' apply And.intro)<;>first|assumption|exact rzb (by omega)|exact szb (by omega)|exact Int.mul_ne_zero (den_ne _) (den_ne _))
  |(exfalso;simp_all;done)
  |(exfalso;grind)
  |omega
  |((repeat' apply And.intro)<;>first|assumption|exact rzb (by omega)|exact szb (by omega)|exact Int.mul_ne_zero (den_ne _) (den_ne _))
  |skip⟩
instance x_rsub(a b c d e f:Rat):DenI Tryz.prog 23 [Q3 a b c,Q3 d e f] (rz a≤20000∧rz b≤20000∧rz c≤20000∧rz d≤20000∧rz e≤20000∧rz f≤20000) (Q6 (a-d) b (-e) 0 c f):=⟨λhp=>by
 have i_a:RzB a 20000:=⟨hp.1⟩
 have i_b:RzB b 20000:=⟨hp.2.1⟩
 have i_c:RzB c 20000:=⟨hp.2.2.1⟩
 have i_d:RzB d 20000:=⟨hp.2.2.2.1⟩
 have i_e:RzB e 20000:=⟨hp.2.2.2.2.1⟩
 have i_f:RzB f 20000:=⟨hp.2.2.2.2.2⟩
 all_goals refine den_of (τ:=tab) tab_ok mixed_ Tryz.func23 rfl (by kernel_rfl) (by kernel_rfl) (by kernel_rfl) ?_
 all_goals (repeat' ((try (conv=>whnf));first
  |refine call_0 ?_
  |refine call_i ?_ ?_
  |refine call_c ?_ (λ_=>?_) (λ_=>?_)
  |(with_reducible refine onB_t ?_)
  |(with_reducible refine onB_f ?_)
  |(with_reducible refine onB_d (λ_=>?_) (λ_=>?_))
  |(with_reducible refine onB_n (λ_=>?_) (λ_=>?_))
  |refine OnB.mk (λ_=>?_) (λ_=>?_)
  |refine obl_i ?_ ?_
  |refine Drw.mk (by kernel_rfl) ?_
  |refine mks_i ?_ ?_
  |refine slp_i ?_ ?_
  |(with_reducible refine elem_u ?_ ?_)
  |(with_reducible refine elem_0 ?_)
  |(with_reducible refine elem_1 ?_)
  |refine Ends.mk ?_))
 all_goals (try refine Pr.mk ?_)
 all_goals (try simp only [nrm_] at *)
 all_goals first
  |rfl
  |(simp only [redB,redC,mkA,mkB,mkC,cooC,ptC, *,true_or,or_true,if_true,if_false,or_self,and_self,and_true,true_and,and_false,false_and,not_true,not_false_iff,Bool.false_eq_true,decide_true,decide_false,Bool.or_true,Bool.true_or,Bool.or_false,Bool.false_or];rfl)
  |((repeat' apply And.intro)<;>first|assumption|exact rzb (by omega)|exact szb (by omega)|exact Int.mul_ne_zero (den_ne _) (den_ne _))
  |(exfalso;simp_all;done)
  |(exfalso;grind)
  |omega
  |((repeat' apply And.intro)<;>first|assumption|exact rzb (by omega)|exact szb (by omega)|exact Int.mul_ne_zero (den_ne _) (den_ne _))
  |skip⟩
instance x_apart(a b c d e f:Rat):DenI Tryz.prog 19 [Q3 a b c,Q3 d e f] (rz a≤20000∧rz b≤20000∧rz c≤20000∧rz d≤20000∧rz e≤20000∧rz f≤20000) (.tup [.int .i64 (apartI (rootI a b c) (rootI d e f)).1,.bool (apartI (rootI a b c) (rootI d e f)).2]):=⟨λhp=>by
 have i_a:RzB a 20000:=⟨hp.1⟩
 have i_b:RzB b 20000:=⟨hp.2.1⟩
 have i_c:RzB c 20000:=⟨hp.2.2.1⟩
 have i_d:RzB d 20000:=⟨hp.2.2.2.1⟩
 have i_e:RzB e 20000:=⟨hp.2.2.2.2.1⟩
 have i_f:RzB f 20000:=⟨hp.2.2.2.2.2⟩
 all_goals refine den_of (τ:=tab) tab_ok mixed_ Tryz.func19 rfl (by kernel_rfl) (by kernel_rfl) (by kernel_rfl) ?_
 all_goals (repeat' ((try (conv=>whnf));first
  |refine call_0 ?_
  |refine call_i ?_ ?_
  |refine call_c ?_ (λ_=>?_) (λ_=>?_)
  |(with_reducible refine onB_t ?_)
  |(with_reducible refine onB_f ?_)
  |(with_reducible refine onB_d (λ_=>?_) (λ_=>?_))
  |(with_reducible refine onB_n (λ_=>?_) (λ_=>?_))
  |refine OnB.mk (λ_=>?_) (λ_=>?_)
  |refine obl_i ?_ ?_
  |refine Drw.mk (by kernel_rfl) ?_
  |refine mks_i ?_ ?_
  |refine slp_i ?_ ?_
  |(with_reducible refine elem_u ?_ ?_)
  |(with_reducible refine elem_0 ?_)
  |(with_reducible refine elem_1 ?_)
  |refine Ends.mk ?_))
 all_goals (try refine Pr.mk ?_)
 all_goals (try simp only [nrm_] at *)
 all_goals first
  |(refine ap_n1 ?_;simp_all;done)
  |(refine ap_n2 ?_;simp_all;done)
  |(refine ap_lt ?_ ?_ ?_<;>first|assumption|(simp_all;done))
  |(refine ap_gt ?_ ?_ ?_ ?_<;>first|assumption|(simp_all;done))
  |(refine ap_no ?_ ?_ ?_ ?_<;>first|assumption|(simp_all;done))
  |((repeat' apply And.intro)<;>first|assumption|exact rzb (by omega)|exact szb (by omega)|exact Int.mul_ne_zero (den_ne _) (den_ne _))
  |skip⟩
instance x_quick(a b c d m n:Rat):DenI Tryz.prog 56 [Q6 a b c d m n] (rz a≤80010∧rz b≤80010∧rz c≤80010∧rz d≤80010∧rz m≤80010∧rz n≤80010) (.tup [.int .i64 (quickA a b c d m n).1,.bool (quickA a b c d m n).2]):=⟨λhp=>by
 have z_a:=ivB_from a
 have z_b:=ivB_from b
 have z_c:=ivB_from c
 have z_d:=ivB_from d
 have z_m:=ivB_from m
 have z_n:=ivB_from n
 have z1:=ivB_sqrt z_m
 have z2:=ivB_sqrt z_n
 have z3:=ivB_mul (gF b) (gS m)
 have z4:=ivB_mul (gF c) (gS n)
 have z5:=ivB_mul (gS m) (gS n)
 have z6:=ivB_mul (gF d) (gK m n)
 have z7:=ivB_add z_a z3
 have z8:=ivB_add z4 z6
 have z9:=ivB_add z7 z8
 have i_a:RzB a 80010:=⟨hp.1⟩
 have i_b:RzB b 80010:=⟨hp.2.1⟩
 have i_c:RzB c 80010:=⟨hp.2.2.1⟩
 have i_d:RzB d 80010:=⟨hp.2.2.2.1⟩
 have i_m:RzB m 80010:=⟨hp.2.2.2.2.1⟩
 have i_n:RzB n 80010:=⟨hp.2.2.2.2.2⟩
 all_goals refine den_of (τ:=tab) tab_ok mixed_ Tryz.func56 rfl (by kernel_rfl) (by kernel_rfl) (by kernel_rfl) ?_
 all_goals (repeat' ((try (conv=>whnf));first
  |refine call_0 ?_
  |refine call_i ?_ ?_
  |refine call_c ?_ (λ_=>?_) (λ_=>?_)
  |(with_reducible refine onB_t ?_)
  |(with_reducible refine onB_f ?_)
  |(with_reducible refine onB_d (λ_=>?_) (λ_=>?_))
  |(with_reducible refine onB_n (λ_=>?_) (λ_=>?_))
  |refine OnB.mk (λ_=>?_) (λ_=>?_)
  |refine obl_i ?_ ?_
  |refine Drw.mk (by kernel_rfl) ?_
  |refine mks_i ?_ ?_
  |refine slp_i ?_ ?_
  |(with_reducible refine elem_u ?_ ?_)
  |(with_reducible refine elem_0 ?_)
  |(with_reducible refine elem_1 ?_)
  |refine Ends.mk ?_))
 all_goals (try refine Pr.mk ?_)
 all_goals (try simp only [nrm_] at *)
 all_goals (try simp only [Prod.eta,Bool.true_and] at *)
 all_goals first
  |exact iv1 z_m
  |exact iv1 z_n
  |exact iv2 z_b z1
  |exact iv2 z_c z2
  |exact iv2 z1 z2
  |exact iv2 z_d z5
  |exact iv2 z_a z3
  |exact iv2 z4 z6
  |exact iv2 z7 z8
  |(refine qk_n (λk=>?_);obtain ⟨k1,k2,k3,k4,k5,k6,k7,k8,k9,k10,k11,k12,k13,k14,k15⟩:=k;simp_all;done)
  |(rename_i h;simp only [Bool.not_eq_false',Bool.and_eq_true] at h;obtain ⟨⟨⟨⟨⟨⟨⟨⟨⟨⟨⟨⟨⟨⟨h1,h2⟩,h3⟩,h4⟩,h5⟩,h6⟩,h7⟩,h8⟩,h9⟩,h10⟩,h11⟩,h12⟩,h13⟩,h14⟩,h15⟩:=h;rw [quickA_y ⟨h1,h2,h3,h4,h5,h6,h7,h8,h9,h10,h11,h12,h13,h14,h15⟩];first|done|rfl)
  |((repeat' apply And.intro)<;>first|assumption|exact rzb (by omega)|exact szb (by omega)|exact Int.mul_ne_zero (den_ne _) (den_ne _))
  |skip⟩
instance x_sadd(a b:Rat):DenI Tryz.prog 57 [R a,R b] (rz a≤4000000∧rz b≤4000000) (R (a+b)):=⟨λhp=>by
 have i_a:RzB a 4000000:=⟨hp.1⟩
 have i_b:RzB b 4000000:=⟨hp.2⟩
 all_goals refine den_of (τ:=tab) tab_ok mixed_ Tryz.func57 rfl (by kernel_rfl) (by kernel_rfl) (by kernel_rfl) ?_
 all_goals (repeat' ((try (conv=>whnf));first
  |refine call_0 ?_
  |refine call_i ?_ ?_
  |refine call_c ?_ (λ_=>?_) (λ_=>?_)
  |(with_reducible refine onB_t ?_)
  |(with_reducible refine onB_f ?_)
  |(with_reducible refine onB_d (λ_=>?_) (λ_=>?_))
  |(with_reducible refine onB_n (λ_=>?_) (λ_=>?_))
  |refine OnB.mk (λ_=>?_) (λ_=>?_)
  |refine obl_i ?_ ?_
  |refine Drw.mk (by kernel_rfl) ?_
  |refine mks_i ?_ ?_
  |refine slp_i ?_ ?_
  |(with_reducible refine elem_u ?_ ?_)
  |(with_reducible refine elem_0 ?_)
  |(with_reducible refine elem_1 ?_)
  |refine Ends.mk ?_))
 all_goals (try refine Pr.mk ?_)
 all_goals (try simp only [nrm_] at *)
 all_goals first
  |rfl
  |(simp only [redB,redC,mkA,mkB,mkC,cooC,ptC, *,true_or,or_true,if_true,if_false,or_self,and_self,and_true,true_and,and_false,false_and,not_true,not_false_iff,Bool.false_eq_true,decide_true,decide_false,Bool.or_true,Bool.true_or,Bool.or_false,Bool.false_or];rfl)
  |((repeat' apply And.intro)<;>first|assumption|exact rzb (by omega)|exact szb (by omega)|exact Int.mul_ne_zero (den_ne _) (den_ne _))
  |(exfalso;simp_all;done)
  |(exfalso;grind)
  |omega
  |((repeat' apply And.intro)<;>first|assumption|exact rzb (by omega)|exact szb (by omega)|exact Int.mul_ne_zero (den_ne _) (den_ne _))
  |skip⟩
instance x_rsign(a:Rat)(b c d m n:Rat):DenI Tryz.prog 22 [Q6 a b c d m n] (rz b≤20010∧rz c≤20010∧rz d≤20010∧rz m≤20010∧rz n≤20010∧rz a≤80010∧0≤m∧0≤n) (.int .i64 (sg4 a b c d m n)):=⟨λhp=>by
 have i_b:RzB b 20010:=⟨hp.1⟩
 have i_c:RzB c 20010:=⟨hp.2.1⟩
 have i_d:RzB d 20010:=⟨hp.2.2.1⟩
 have i_m:RzB m 20010:=⟨hp.2.2.2.1⟩
 have i_n:RzB n 20010:=⟨hp.2.2.2.2.1⟩
 have hpre:=hp.2.2.2.2.2
 have i_a:RzB a 80010:=⟨hpre.1⟩
 obtain ⟨_,h_m,h_n⟩:=hpre
 all_goals refine den_of (τ:=tab) tab_ok mixed_ Tryz.func22 rfl (by kernel_rfl) (by kernel_rfl) (by kernel_rfl) ?_
 all_goals (repeat' ((try (conv=>whnf));first
  |refine call_0 ?_
  |refine call_i ?_ ?_
  |refine call_c ?_ (λ_=>?_) (λ_=>?_)
  |(with_reducible refine onB_t ?_)
  |(with_reducible refine onB_f ?_)
  |(with_reducible refine onB_d (λ_=>?_) (λ_=>?_))
  |(with_reducible refine onB_n (λ_=>?_) (λ_=>?_))
  |refine OnB.mk (λ_=>?_) (λ_=>?_)
  |refine obl_i ?_ ?_
  |refine Drw.mk (by kernel_rfl) ?_
  |refine mks_i ?_ ?_
  |refine slp_i ?_ ?_
  |(with_reducible refine elem_u ?_ ?_)
  |(with_reducible refine elem_0 ?_)
  |(with_reducible refine elem_1 ?_)
  |refine Ends.mk ?_))
 all_goals (try refine Pr.mk ?_)
 all_goals (try simp only [nrm_] at *)
 all_goals (try simp only [w_ss,w_sc,w_xs,w_xx] at *)
 all_goals first
  |contradiction
  |exact rsg_1 h_m h_n (by assumption)
  |with_reducible exact rs_1 (by assumption)
  |with_reducible exact rs_2 (by assumption)
  |with_reducible exact rs_3 (by assumption) (by assumption) (by assumption)
  |with_reducible exact rs_4 (by assumption) (by assumption) (by assumption)
  |(exfalso;grind)
  |((repeat' apply And.intro)<;>first|assumption|exact rzb (by omega)|exact szb (by omega)|exact Int.mul_ne_zero (den_ne _) (den_ne _))
  |skip⟩
instance x_rcmp(a b c d e f:Rat):DenI Tryz.prog 6 [Q3 a b c,Q3 d e f] (rz a≤20000∧rz b≤20000∧rz c≤20000∧rz d≤20000∧rz e≤20000∧rz f≤20000∧0≤c∧0≤f) (.int .i64 (cmp4 a b c d e f)):=⟨λhp=>by
 have i_a:RzB a 20000:=⟨hp.1⟩
 have i_b:RzB b 20000:=⟨hp.2.1⟩
 have i_c:RzB c 20000:=⟨hp.2.2.1⟩
 have i_d:RzB d 20000:=⟨hp.2.2.2.1⟩
 have i_e:RzB e 20000:=⟨hp.2.2.2.2.1⟩
 have i_f:RzB f 20000:=⟨hp.2.2.2.2.2.1⟩
 have hpre:=hp.2.2.2.2.2.2
 all_goals refine den_of (τ:=tab) tab_ok mixed_ Tryz.func6 rfl (by kernel_rfl) (by kernel_rfl) (by kernel_rfl) ?_
 all_goals (repeat' ((try (conv=>whnf));first
  |refine call_0 ?_
  |refine call_i ?_ ?_
  |refine call_c ?_ (λ_=>?_) (λ_=>?_)
  |(with_reducible refine onB_t ?_)
  |(with_reducible refine onB_f ?_)
  |(with_reducible refine onB_d (λ_=>?_) (λ_=>?_))
  |(with_reducible refine onB_n (λ_=>?_) (λ_=>?_))
  |refine OnB.mk (λ_=>?_) (λ_=>?_)
  |refine obl_i ?_ ?_
  |refine Drw.mk (by kernel_rfl) ?_
  |refine mks_i ?_ ?_
  |refine slp_i ?_ ?_
  |(with_reducible refine elem_u ?_ ?_)
  |(with_reducible refine elem_0 ?_)
  |(with_reducible refine elem_1 ?_)
  |refine Ends.mk ?_))
 all_goals (try refine Pr.mk ?_)
 all_goals (try simp only [nrm_] at *)
 all_goals first
  |with_reducible exact cp_1 hpre.1 hpre.2 (by assumption) (by assumption)
  |with_reducible exact cp_2 hpre.1 hpre.2 (by assumption)
  |with_reducible exact cp_3 hpre.1 (by assumption)
  |rfl
  |exact ⟨rzb (by omega),rzb (by omega),rzb (by omega),rzb (by omega),rzb (by omega),rzb (by omega),hpre⟩
  |((repeat' apply And.intro)<;>first|assumption|exact rzb (by omega)|exact szb (by omega)|exact Int.mul_ne_zero (den_ne _) (den_ne _))
  |skip⟩
end Go.Proofs.YtbbfmlhkgceabaaGreat
namespace Go.Sw
open Go
set_option linter.unusedVariables false
def comC(b c f:Rat):Rat:=if b=0 then f else c
def comOk(b c e f:Rat):Bool:=decide (b=0) || decide (e=0) || decide (c=f)
theorem comOk_or{b c e f:Rat}(h:comOk b c e f=true):b=0∨e=0∨c=f:=by
 unfold comOk at h
 simp only [Bool.or_eq_true,decide_eq_true_eq] at h
 rcases h with (h|h)|h
 ·exact .inl h
 ·exact .inr (.inl h)
 ·exact .inr (.inr h)
theorem comC_nn{b c f:Rat}(hc:0≤c)(hf:0≤f):0≤comC b c f:=by unfold comC;split<;>assumption
theorem cooC_nn{b c:Rat}(hc:0≤c):0≤cooC b c:=by unfold cooC;split<;>first|exact Rat.le_refl|assumption
theorem v2_coo(a b c:Rat)(n:Nat):v2 a b (cooC b c) n=a+b*rtS c n:=by
 unfold v2 cooC
 by_cases hb:b=0
 ·subst hb;rw [if_pos rfl];grind
 ·rw [if_neg hb]
theorem v2_com{a b c d e f:Rat}(h:b=0∨e=0∨c=f)(n:Nat):v2 a b c n=a+b*rtS (comC b c f) n∧v2 d e f n=d+e*rtS (comC b c f) n:=by
 unfold v2 comC
 by_cases hb:b=0
 ·subst hb;rw [if_pos rfl];constructor<;>grind
 ·rw [if_neg hb]
  refine ⟨rfl, ?_⟩
  rcases h with h|h|h
  ·exact absurd h hb
  ·subst h;grind
  ·rw [h]
theorem v2_add{a b c d e f:Rat}(h:b=0∨e=0∨c=f)(n:Nat):v2 (a+d) (b+e) (cooC (b+e) (comC b c f)) n=v2 a b c n+v2 d e f n:=by
 obtain ⟨h1,h2⟩:=v2_com (a:=a) (d:=d) h n
 rw [v2_coo,h1,h2]
 grind
def mulA(a b c d e f:Rat):Rat:=a*d+b*e*comC b c f
def mulB(a b d e:Rat):Rat:=a*e+b*d
theorem NulS.cmul{f:Nat→Rat}(h:NulS f)(q:Rat):NulS λn=>f n*q:=NulS.mul h (Cau.const q).bnd
theorem v2_mul{a b c d e f:Rat}(hc:0≤c)(hf:0≤f)(h:b=0∨e=0∨c=f):NulS λn=>v2 (mulA a b c d e f) (mulB a b d e) (cooC (mulB a b d e) (comC b c f)) n-v2 a b c n*v2 d e f n:=by
 refine ((rts_sq (comC_nn (b:=b) hc hf)).cmul (-(b*e))).cg λn=>?_
 obtain ⟨h1,h2⟩:=v2_com (a:=a) (d:=d) h n
 rw [v2_coo,h1,h2]
 unfold mulA mulB
 grind
theorem ord_trans{a b c d e f x y z:Rat}(hc:0≤c)(hf:0≤f)(hz:0≤z)(h1:cmp4 a b c d e f≤0)(h2:cmp4 d e f x y z≤0):
 cmp4 a b c x y z≤0∧(cmp4 a b c d e f<0∨cmp4 d e f x y z<0→cmp4 a b c x y z<0):=by
 have s1:=cmp4_sg (a:=a) (b:=b) (d:=d) (e:=e) hc hf
 have s2:=cmp4_sg (a:=d) (b:=e) (d:=x) (e:=y) hf hz
 have s3:=cmp4_sg (a:=a) (b:=b) (d:=x) (e:=y) hc hz
 have key:∀m n:Int,SgS (λn=>v2 a b c n-v2 d e f n) m→SgS (λn=>v2 d e f n-v2 x y z n) n→(m = -1∨m=0)→(n = -1∨n=0)→SgS (λn=>v2 a b c n-v2 x y z n) (if m = -1∨n = -1 then -1 else 0):=by
  intro m n k1 k2 hm hn
  have e0:∀i,(v2 a b c i-v2 d e f i)+(v2 d e f i-v2 x y z i)=v2 a b c i-v2 x y z i:=λi=>by grind
  rcases hm with rfl|rfl
  ·rcases hn with rfl|rfl
   ·rw [if_pos (.inl rfl)];exact (k1.same k2).cg e0
   ·rw [if_pos (.inl rfl)];exact (k1.nadd k2.nul).cg e0
  ·rcases hn with rfl|rfl
   ·rw [if_pos (.inr rfl)];exact (k2.nadd k1.nul).cg λi=>by have:=e0 i;grind
   ·rw [if_neg (by decide)];exact (k1.nadd k2.nul).cg e0
 have l1:=s1.lim
 have l2:=s2.lim
 have:=s3.uniq (key _ _ s1 s2 (by omega) (by omega))
 rw [this]
 split<;>omega
theorem ord_add{a b c d e f x y z:Rat}(hc:0≤c)(hf:0≤f)(hz:0≤z)(h1:b=0∨y=0∨c=z)(h2:e=0∨y=0∨f=z):
 cmp4 (a+x) (b+y) (cooC (b+y) (comC b c z)) (d+x) (e+y) (cooC (e+y) (comC e f z))=cmp4 a b c d e f :=
 (cmp4_sg (cooC_nn (comC_nn hc hz)) (cooC_nn (comC_nn hf hz))).uniq ((cmp4_sg hc hf).cg λn=>by rw [v2_add h1,v2_add h2];grind)
theorem ord_mul{a b c d e f x y z:Rat}(hc:0≤c)(hf:0≤f)(hz:0≤z)(h1:b=0∨y=0∨c=z)(h2:e=0∨y=0∨f=z):
 cmp4 (mulA a b c x y z) (mulB a b x y) (cooC (mulB a b x y) (comC b c z)) (mulA d e f x y z) (mulB d e x y) (cooC (mulB d e x y) (comC e f z))=cmp4 a b c d e f*exI x y z:=by
 have s:=SgS.mul ((v2_cau hc).sub (v2_cau hf)) (v2_cau hz) (cmp4_sg (a:=a) (b:=b) (d:=d) (e:=e) hc hf) (v2_sg (A:=x) (B:=y) hz)
 refine (cmp4_sg (cooC_nn (comC_nn hc hz)) (cooC_nn (comC_nn hf hz))).uniq (s.near ?_)
 refine ((v2_mul (a:=a) (d:=x) hc hz h1).sub (v2_mul (a:=d) (d:=x) hf hz h2)).cg λn=>?_
 grind
theorem sgnR_p{q:Rat}(h:0<q):sgnR q=1:=by
 rcases sgn_cases q with ⟨a,e⟩|⟨a,e⟩|⟨a,e⟩<;>first|exact e|(exfalso;grind)
theorem ors_1{a b c:Rat}(h:b=0):exI a b c=sgnR a:=by rw [h];exact exI_zero
theorem ors_bc{b c:Rat}(h:b=0∨0<c)(hb:¬b=0):sgnR b*sgnR c=sgnR b:=by
 rcases h with h|h
 ·exact absurd h hb
 ·rw [sgnR_p h];omega
theorem ors_2{a b c:Rat}(h:b=0∨0<c)(h1:sgnR a=sgnR b):exI a b c=sgnR a:=by
 by_cases hb:b=0
 ·exact ors_1 hb
 ·unfold exI;rw [ors_bc h hb,if_pos (.inl h1)]
theorem ors_3{a b c:Rat}(h:b=0∨0<c)(h1:¬b=0)(h2:¬sgnR a=sgnR b)(h3:a=0):exI a b c=sgnR b:=by
 unfold exI
 rw [ors_bc h h1,if_neg (λe=>e.elim h2 (λe=>h1 (sgnR_eq0.1 e))),if_pos (sgnR_eq0.2 h3)]
theorem ors_4{a b c:Rat}(h:b=0∨0<c)(h1:¬b=0)(h2:¬sgnR a=sgnR b)(h3:¬a=0):exI a b c=sgnR a*sgnR (a*a-b*b*c):=by
 unfold exI
 rw [ors_bc h h1,if_neg (λe=>e.elim h2 (λe=>h1 (sgnR_eq0.1 e))),if_neg (λe=>h3 (sgnR_eq0.1 e)),cmpR_sub]
@[reducible] def ofA(m:Int)(d:Nat):Rat:=(m:Rat) / (((d:Int)+1:Int):Rat)
theorem ofA_rz{m:Int}{d:Nat}(h1 : -32768≤m∧m<65536)(h2:d<256):rz (ofA m d)≤6:=rz_q _ _ (by omega) (by omega) (by omega)
theorem ofA_nn(k f:Nat):0≤ofA (k:Int) f:=by
 unfold ofA
 have h1:(0:Rat)≤(((k:Nat):Int):Rat):=Rat.intCast_nonneg.2 (by omega)
 have h2:(0:Rat)<((((f:Int)+1:Int)):Rat):=by
  have:=Rat.intCast_lt_intCast.2 (show (0:Int)<(f:Int)+1 by omega)
  simpa using this
 rw [Rat.div_def]
 exact Rat.mul_nonneg h1 (Rat.le_of_lt (Rat.inv_pos.2 h2))
theorem mk_bc{b c:Rat}(hc:0≤c):mkB b c=0∨0<mkC b c:=by
 unfold mkB mkC redB redC
 repeat' split
 all_goals first|exact .inl rfl|(right;rcases Rat.le_iff_lt_or_eq.1 hc with h|h<;>first|exact h|(exfalso;simp_all))|skip
end Go.Sw
namespace Go.Proofs.YtbbfmlhkgceabaaGreat
open Go Go.RowKit Go.Sw
set_option linter.unusedVariables false
set_option maxRecDepth 100000
set_option maxHeartbeats 8000000
set_option synthInstance.maxSize 4000
set_option synthInstance.maxHeartbeats 400000
instance o_com(a b c d e f:Rat):DenI Tryz.prog 24 [Q3 a b c,Q3 d e f] (rz a≤4000000∧rz b≤4000000∧rz c≤4000000∧rz d≤4000000∧rz e≤4000000∧rz f≤4000000) (.tup [R (if b=0 then f else c),.bool (decide (b=0) || decide (e=0) || decide (c=f))]):=⟨λhp=>by
 have i_a:RzB a 4000000:=⟨hp.1⟩
 have i_b:RzB b 4000000:=⟨hp.2.1⟩
 have i_c:RzB c 4000000:=⟨hp.2.2.1⟩
 have i_d:RzB d 4000000:=⟨hp.2.2.2.1⟩
 have i_e:RzB e 4000000:=⟨hp.2.2.2.2.1⟩
 have i_f:RzB f 4000000:=⟨hp.2.2.2.2.2⟩
 all_goals refine den_of (τ:=tab) tab_ok mixed_ Tryz.func24 rfl (by kernel_rfl) (by kernel_rfl) (by kernel_rfl) ?_
 all_goals (repeat' ((try (conv=>whnf));first
  |refine call_0 ?_
  |refine call_i ?_ ?_
  |refine call_c ?_ (λ_=>?_) (λ_=>?_)
  |(with_reducible refine onB_t ?_)
  |(with_reducible refine onB_f ?_)
  |(with_reducible refine onB_d (λ_=>?_) (λ_=>?_))
  |(with_reducible refine onB_n (λ_=>?_) (λ_=>?_))
  |refine OnB.mk (λ_=>?_) (λ_=>?_)
  |refine obl_i ?_ ?_
  |refine Drw.mk (by kernel_rfl) ?_
  |refine mks_i ?_ ?_
  |refine slp_i ?_ ?_
  |(with_reducible refine elem_u ?_ ?_)
  |(with_reducible refine elem_0 ?_)
  |(with_reducible refine elem_1 ?_)
  |refine Ends.mk ?_))
 all_goals (try refine Pr.mk ?_)
 all_goals (try simp only [nrm_] at *)
 all_goals first
  |rfl
  |(simp only [redB,redC,mkA,mkB,mkC,cooC,ptC, *,true_or,or_true,if_true,if_false,or_self,and_self,and_true,true_and,and_false,false_and,not_true,not_false_iff,Bool.false_eq_true,decide_true,decide_false,Bool.or_true,Bool.true_or,Bool.or_false,Bool.false_or];rfl)
  |((repeat' apply And.intro)<;>first|assumption|exact rzb (by omega)|exact szb (by omega)|exact Int.mul_ne_zero (den_ne _) (den_ne _))
  |(exfalso;simp_all;done)
  |(exfalso;grind)
  |omega
  |((repeat' apply And.intro)<;>first|assumption|exact rzb (by omega)|exact szb (by omega)|exact Int.mul_ne_zero (den_ne _) (den_ne _))
  |skip⟩
instance o_norm(a b c:Rat):DenI Tryz.prog 28 [Q3 a b c] (rz a≤100000∧rz b≤100000∧rz c≤100000) (R (a*a-b*b*c)):=⟨λhp=>by
 have i_a:RzB a 100000:=⟨hp.1⟩
 have i_b:RzB b 100000:=⟨hp.2.1⟩
 have i_c:RzB c 100000:=⟨hp.2.2⟩
 all_goals refine den_of (τ:=tab) tab_ok mixed_ Tryz.func28 rfl (by kernel_rfl) (by kernel_rfl) (by kernel_rfl) ?_
 all_goals (repeat' ((try (conv=>whnf));first
  |refine call_0 ?_
  |refine call_i ?_ ?_
  |refine call_c ?_ (λ_=>?_) (λ_=>?_)
  |(with_reducible refine onB_t ?_)
  |(with_reducible refine onB_f ?_)
  |(with_reducible refine onB_d (λ_=>?_) (λ_=>?_))
  |(with_reducible refine onB_n (λ_=>?_) (λ_=>?_))
  |refine OnB.mk (λ_=>?_) (λ_=>?_)
  |refine obl_i ?_ ?_
  |refine Drw.mk (by kernel_rfl) ?_
  |refine mks_i ?_ ?_
  |refine slp_i ?_ ?_
  |(with_reducible refine elem_u ?_ ?_)
  |(with_reducible refine elem_0 ?_)
  |(with_reducible refine elem_1 ?_)
  |refine Ends.mk ?_))
 all_goals (try refine Pr.mk ?_)
 all_goals (try simp only [nrm_] at *)
 all_goals first
  |rfl
  |(simp only [redB,redC,mkA,mkB,mkC,cooC,ptC, *,true_or,or_true,if_true,if_false,or_self,and_self,and_true,true_and,and_false,false_and,not_true,not_false_iff,Bool.false_eq_true,decide_true,decide_false,Bool.or_true,Bool.true_or,Bool.or_false,Bool.false_or];rfl)
  |((repeat' apply And.intro)<;>first|assumption|exact rzb (by omega)|exact szb (by omega)|exact Int.mul_ne_zero (den_ne _) (den_ne _))
  |(exfalso;simp_all;done)
  |(exfalso;grind)
  |omega
  |((repeat' apply And.intro)<;>first|assumption|exact rzb (by omega)|exact szb (by omega)|exact Int.mul_ne_zero (den_ne _) (den_ne _))
  |skip⟩
instance o_sign(a b c:Rat):DenI Tryz.prog 9 [Q3 a b c] (rz a≤100000∧rz b≤100000∧rz c≤100000∧(b=0∨0<c)) (.int .i64 (exI a b c)):=⟨λhp=>by
 have i_a:RzB a 100000:=⟨hp.1⟩
 have i_b:RzB b 100000:=⟨hp.2.1⟩
 have i_c:RzB c 100000:=⟨hp.2.2.1⟩
 have hpre:=hp.2.2.2
 all_goals refine den_of (τ:=tab) tab_ok mixed_ Tryz.func9 rfl (by kernel_rfl) (by kernel_rfl) (by kernel_rfl) ?_
 all_goals (repeat' ((try (conv=>whnf));first
  |refine call_0 ?_
  |refine call_i ?_ ?_
  |refine call_c ?_ (λ_=>?_) (λ_=>?_)
  |(with_reducible refine onB_t ?_)
  |(with_reducible refine onB_f ?_)
  |(with_reducible refine onB_d (λ_=>?_) (λ_=>?_))
  |(with_reducible refine onB_n (λ_=>?_) (λ_=>?_))
  |refine OnB.mk (λ_=>?_) (λ_=>?_)
  |refine obl_i ?_ ?_
  |refine Drw.mk (by kernel_rfl) ?_
  |refine mks_i ?_ ?_
  |refine slp_i ?_ ?_
  |(with_reducible refine elem_u ?_ ?_)
  |(with_reducible refine elem_0 ?_)
  |(with_reducible refine elem_1 ?_)
  |refine Ends.mk ?_))
 all_goals (try refine Pr.mk ?_)
 all_goals (try simp only [nrm_] at *)
 all_goals (try simp only [w_ss,w_sc,w_xs,w_xx] at *)
 all_goals first
  |(refine iE ?_;rw [ors_1 (by assumption)];done)
  |(refine iE ?_;rw [ors_2 hpre (by assumption)];done)
  |(refine iE ?_;rw [ors_3 hpre (by assumption) (by assumption) (by assumption)];done)
  |(refine iE ?_;rw [ors_4 hpre (by assumption) (by assumption) (by assumption)];done)
  |((repeat' apply And.intro)<;>first|assumption|exact rzb (by omega)|exact szb (by omega)|exact Int.mul_ne_zero (den_ne _) (den_ne _))
  |skip⟩
instance o_add(a b c d e f:Rat):DenC Tryz.prog 7 [Q3 a b c,Q3 d e f] (rz a≤100000∧rz b≤100000∧rz c≤100000∧rz d≤100000∧rz e≤100000∧rz f≤100000) ((decide (b=0) || decide (e=0) || decide (c=f))=true) (.tup [Q3 (a+d) (b+e) (cooC (b+e) (if b=0 then f else c)),.int .i64 0]) (.tup [ZQ3,.int .i64 1]):=⟨denC λhp q e1 e2=>by
 have i_a:RzB a 100000:=⟨hp.1⟩
 have i_b:RzB b 100000:=⟨hp.2.1⟩
 have i_c:RzB c 100000:=⟨hp.2.2.1⟩
 have i_d:RzB d 100000:=⟨hp.2.2.2.1⟩
 have i_e:RzB e 100000:=⟨hp.2.2.2.2.1⟩
 have i_f:RzB f 100000:=⟨hp.2.2.2.2.2⟩
 all_goals refine den_of (τ:=tab) tab_ok mixed_ Tryz.func7 rfl (by kernel_rfl) (by kernel_rfl) (by kernel_rfl) ?_
 all_goals (repeat' ((try (conv=>whnf));first
  |refine call_0 ?_
  |refine call_i ?_ ?_
  |refine call_c ?_ (λ_=>?_) (λ_=>?_)
  |(with_reducible refine onB_t ?_)
  |(with_reducible refine onB_f ?_)
  |(with_reducible refine onB_d (λ_=>?_) (λ_=>?_))
  |(with_reducible refine onB_n (λ_=>?_) (λ_=>?_))
  |refine OnB.mk (λ_=>?_) (λ_=>?_)
  |refine obl_i ?_ ?_
  |refine Drw.mk (by kernel_rfl) ?_
  |refine mks_i ?_ ?_
  |refine slp_i ?_ ?_
  |(with_reducible refine elem_u ?_ ?_)
  |(with_reducible refine elem_0 ?_)
  |(with_reducible refine elem_1 ?_)
  |refine Ends.mk ?_))
 all_goals (try refine Pr.mk ?_)
 all_goals (try simp only [nrm_] at *)
 all_goals first
  |(rename_i h;rw [Bool.not_eq_false'] at h;rw [e1 h];rfl)
  |(rw [e2 (by simp_all)];rfl)
  |(exfalso;simp_all;done)
  |(exfalso;grind)
  |omega
  |((repeat' apply And.intro)<;>first|assumption|exact rzb (by omega)|exact szb (by omega)|exact Int.mul_ne_zero (den_ne _) (den_ne _))
  |skip⟩
instance o_mul(a b c d e f:Rat):DenC Tryz.prog 8 [Q3 a b c,Q3 d e f] (rz a≤20000∧rz b≤20000∧rz c≤20000∧rz d≤20000∧rz e≤20000∧rz f≤20000) ((decide (b=0) || decide (e=0) || decide (c=f))=true) (.tup [Q3 (a*d+b*e*(if b=0 then f else c)) (a*e+b*d) (cooC (a*e+b*d) (if b=0 then f else c)),.int .i64 0]) (.tup [ZQ3,.int .i64 1]):=⟨denC λhp q e1 e2=>by
 have i_a:RzB a 20000:=⟨hp.1⟩
 have i_b:RzB b 20000:=⟨hp.2.1⟩
 have i_c:RzB c 20000:=⟨hp.2.2.1⟩
 have i_d:RzB d 20000:=⟨hp.2.2.2.1⟩
 have i_e:RzB e 20000:=⟨hp.2.2.2.2.1⟩
 have i_f:RzB f 20000:=⟨hp.2.2.2.2.2⟩
 all_goals refine den_of (τ:=tab) tab_ok mixed_ Tryz.func8 rfl (by kernel_rfl) (by kernel_rfl) (by kernel_rfl) ?_
 all_goals (repeat' ((try (conv=>whnf));first
  |refine call_0 ?_
  |refine call_i ?_ ?_
  |refine call_c ?_ (λ_=>?_) (λ_=>?_)
  |(with_reducible refine onB_t ?_)
  |(with_reducible refine onB_f ?_)
  |(with_reducible refine onB_d (λ_=>?_) (λ_=>?_))
  |(with_reducible refine onB_n (λ_=>?_) (λ_=>?_))
  |refine OnB.mk (λ_=>?_) (λ_=>?_)
  |refine obl_i ?_ ?_
  |refine Drw.mk (by kernel_rfl) ?_
  |refine mks_i ?_ ?_
  |refine slp_i ?_ ?_
  |(with_reducible refine elem_u ?_ ?_)
  |(with_reducible refine elem_0 ?_)
  |(with_reducible refine elem_1 ?_)
  |refine Ends.mk ?_))
 all_goals (try refine Pr.mk ?_)
 all_goals (try simp only [nrm_] at *)
 all_goals first
  |(rename_i h;rw [Bool.not_eq_false'] at h;rw [e1 h];rfl)
  |(rw [e2 (by simp_all)];rfl)
  |(exfalso;simp_all;done)
  |(exfalso;grind)
  |omega
  |((repeat' apply And.intro)<;>first|assumption|exact rzb (by omega)|exact szb (by omega)|exact Int.mul_ne_zero (den_ne _) (den_ne _))
  |skip⟩
instance o_of(m n:Int)(k d e f:Nat):DenI Tryz.prog 5 [.agg [.v (.int .i16 m),.v (.int .i16 n),.v (.int .u16 (k:Nat)),.v (.int .u8 (d:Nat)),.v (.int .u8 (e:Nat)),.v (.int .u8 (f:Nat))]] ((-32768≤m∧m<32768)∧(-32768≤n∧n<32768)∧k<65536∧d<256∧e<256∧f<256) (Q3 (mkA (ofA m d) (ofA n e) (ofA k f)) (mkB (ofA n e) (ofA k f)) (mkC (ofA n e) (ofA k f))):=⟨λhp=>by
 obtain ⟨hm,hn,hk,hd,he,hf⟩:=hp
 all_goals refine den_of (τ:=tab) tab_ok mixed_ Tryz.func5 rfl (by kernel_rfl) (by kernel_rfl) (by kernel_rfl) ?_
 all_goals (repeat' ((try (conv=>whnf));first
  |refine call_0 ?_
  |refine call_i ?_ ?_
  |refine call_c ?_ (λ_=>?_) (λ_=>?_)
  |(with_reducible refine onB_t ?_)
  |(with_reducible refine onB_f ?_)
  |(with_reducible refine onB_d (λ_=>?_) (λ_=>?_))
  |(with_reducible refine onB_n (λ_=>?_) (λ_=>?_))
  |refine OnB.mk (λ_=>?_) (λ_=>?_)
  |refine obl_i ?_ ?_
  |refine Drw.mk (by kernel_rfl) ?_
  |refine mks_i ?_ ?_
  |refine slp_i ?_ ?_
  |(with_reducible refine elem_u ?_ ?_)
  |(with_reducible refine elem_0 ?_)
  |(with_reducible refine elem_1 ?_)
  |refine Ends.mk ?_))
 all_goals (try refine Pr.mk ?_)
 all_goals (try simp (disch:=omega) only [wi64] at *)
 all_goals first
  |trivial
  |(constructor<;>(try constructor)<;>omega)
  |(exact ⟨Nat.le_trans (ofA_rz (by omega) hd) (by decide),Nat.le_trans (ofA_rz (by omega) he) (by decide),Nat.le_trans (ofA_rz (by omega) hf) (by decide),ofA_nn k f⟩)
  |rfl
  |skip⟩
theorem of_ex{m n:Int}{k d e f:Nat}(hp:(-32768≤m∧m<32768)∧(-32768≤n∧n<32768)∧k<65536∧d<256∧e<256∧f<256):∃A B C:Rat,Den Tryz.prog 5 [.agg [.v (.int .i16 m),.v (.int .i16 n),.v (.int .u16 (k:Nat)),.v (.int .u8 (d:Nat)),.v (.int .u8 (e:Nat)),.v (.int .u8 (f:Nat))]] (Q3 A B C)∧0≤C∧(B=0∨0<C)∧rz A≤1000∧rz B≤1000∧rz C≤1000:=by
 have h1:=(o_of m n k d e f).den hp
 obtain ⟨x1,x2,x3,x4,x5,x6⟩:=hp
 have y:RzB (ofA m d) 6:=⟨ofA_rz (by omega) (by omega)⟩
 have z:RzB (ofA n e) 6:=⟨ofA_rz (by omega) (by omega)⟩
 have w:RzB (ofA (k:Nat) f) 6:=⟨ofA_rz (by omega) (by omega)⟩
 exact ⟨_,_,_,h1,mkC_nn (ofA_nn k f),mk_bc (ofA_nn k f),rzb (by decide),rzb (by decide),rzb (by decide)⟩
set_option maxHeartbeats 16000000 in
theorem or1{m1 n1 m2 n2 m3 n3:Int}{k1 d1 e1 f1 k2 d2 e2 f2 k3 d3 e3 f3:Nat}{A1 B1 C1 A2 B2 C2 A3 B3 C3:Rat}{m n k:Int}(aw:Den Tryz.prog 4 [] (.bool true))(o1:Den Tryz.prog 5 [.agg [.v (.int .i16 m1),.v (.int .i16 n1),.v (.int .u16 (k1:Nat)),.v (.int .u8 (d1:Nat)),.v (.int .u8 (e1:Nat)),.v (.int .u8 (f1:Nat))]] ((Q3 A1 B1 C1)))(o2:Den Tryz.prog 5 [.agg [.v (.int .i16 m2),.v (.int .i16 n2),.v (.int .u16 (k2:Nat)),.v (.int .u8 (d2:Nat)),.v (.int .u8 (e2:Nat)),.v (.int .u8 (f2:Nat))]] ((Q3 A2 B2 C2)))(o3:Den Tryz.prog 5 [.agg [.v (.int .i16 m3),.v (.int .i16 n3),.v (.int .u16 (k3:Nat)),.v (.int .u8 (d3:Nat)),.v (.int .u8 (e3:Nat)),.v (.int .u8 (f3:Nat))]] ((Q3 A3 B3 C3)))(q1:Den Tryz.prog 6 [(Q3 A1 B1 C1),(Q3 A2 B2 C2)] (.int .i64 m))(q2:Den Tryz.prog 6 [(Q3 A2 B2 C2),(Q3 A3 B3 C3)] (.int .i64 n))(q3:Den Tryz.prog 6 [(Q3 A1 B1 C1),(Q3 A3 B3 C3)] (.int .i64 k)):awp (Den Tryz.prog) tab (cutC 4 (Tryz.f3.body.getD .skip)) (λz e b=>z=.normal∧SubE [(1,.ptr 1 0),(3,.ptr 3 0),(4,.ptr 4 0),(6,.int .i64 m),(7,.int .i64 n),(8,.int .i64 k)] e∧SubB [(1,.var [.v (.int .i16 m1),.v (.int .i16 n1),.v (.int .u16 (k1:Nat)),.v (.int .u8 (d1:Nat)),.v (.int .u8 (e1:Nat)),.v (.int .u8 (f1:Nat)),.v (.int .i16 m2),.v (.int .i16 n2),.v (.int .u16 (k2:Nat)),.v (.int .u8 (d2:Nat)),.v (.int .u8 (e2:Nat)),.v (.int .u8 (f2:Nat)),.v (.int .i16 m3),.v (.int .i16 n3),.v (.int .u16 (k3:Nat)),.v (.int .u8 (d3:Nat)),.v (.int .u8 (e3:Nat)),.v (.int .u8 (f3:Nat))]),(3,.var [zs A1.num,zl A1.num,zs A1.den,zl A1.den,zs B1.num,zl B1.num,zs B1.den,zl B1.den,zs C1.num,zl C1.num,zs C1.den,zl C1.den]),(4,.var [zs A2.num,zl A2.num,zs A2.den,zl A2.den,zs B2.num,zl B2.num,zs B2.den,zl B2.den,zs C2.num,zl C2.num,zs C2.den,zl C2.den])] b) (argE 0 [.agg [.v (.int .i16 m1),.v (.int .i16 n1),.v (.int .u16 (k1:Nat)),.v (.int .u8 (d1:Nat)),.v (.int .u8 (e1:Nat)),.v (.int .u8 (f1:Nat)),.v (.int .i16 m2),.v (.int .i16 n2),.v (.int .u16 (k2:Nat)),.v (.int .u8 (d2:Nat)),.v (.int .u8 (e2:Nat)),.v (.int .u8 (f2:Nat)),.v (.int .i16 m3),.v (.int .i16 n3),.v (.int .u16 (k3:Nat)),.v (.int .u8 (d3:Nat)),.v (.int .u8 (e3:Nat)),.v (.int .u8 (f3:Nat))]]) []:=by
 haveI i0:DenI Tryz.prog 4 [] (True) (.bool true):=⟨λhp=>aw⟩
 haveI i1:DenI Tryz.prog 5 [.agg [.v (.int .i16 m1),.v (.int .i16 n1),.v (.int .u16 (k1:Nat)),.v (.int .u8 (d1:Nat)),.v (.int .u8 (e1:Nat)),.v (.int .u8 (f1:Nat))]] (True) ((Q3 A1 B1 C1)):=⟨λhp=>o1⟩
 haveI i2:DenI Tryz.prog 5 [.agg [.v (.int .i16 m2),.v (.int .i16 n2),.v (.int .u16 (k2:Nat)),.v (.int .u8 (d2:Nat)),.v (.int .u8 (e2:Nat)),.v (.int .u8 (f2:Nat))]] (True) ((Q3 A2 B2 C2)):=⟨λhp=>o2⟩
 haveI i3:DenI Tryz.prog 5 [.agg [.v (.int .i16 m3),.v (.int .i16 n3),.v (.int .u16 (k3:Nat)),.v (.int .u8 (d3:Nat)),.v (.int .u8 (e3:Nat)),.v (.int .u8 (f3:Nat))]] (True) ((Q3 A3 B3 C3)):=⟨λhp=>o3⟩
 haveI j1:DenI Tryz.prog 6 [(Q3 A1 B1 C1),(Q3 A2 B2 C2)] (True) (.int .i64 m):=⟨λhp=>q1⟩
 haveI j2:DenI Tryz.prog 6 [(Q3 A2 B2 C2),(Q3 A3 B3 C3)] (True) (.int .i64 n):=⟨λhp=>q2⟩
 haveI j3:DenI Tryz.prog 6 [(Q3 A1 B1 C1),(Q3 A3 B3 C3)] (True) (.int .i64 k):=⟨λhp=>q3⟩
 all_goals (repeat' ((try (conv=>whnf));first
  |refine call_0 ?_
  |refine call_i ?_ ?_
  |refine call_c ?_ (λ_=>?_) (λ_=>?_)
  |(with_reducible refine onB_t ?_)
  |(with_reducible refine onB_f ?_)
  |(with_reducible refine onB_d (λ_=>?_) (λ_=>?_))
  |(with_reducible refine onB_n (λ_=>?_) (λ_=>?_))
  |refine OnB.mk (λ_=>?_) (λ_=>?_)
  |refine obl_i ?_ ?_
  |refine Drw.mk (by kernel_rfl) ?_
  |refine mks_i ?_ ?_
  |refine slp_i ?_ ?_
  |(with_reducible refine elem_u ?_ ?_)
  |(with_reducible refine elem_0 ?_)
  |(with_reducible refine elem_1 ?_)
  |refine Ends.mk ?_))
 all_goals (try refine Pr.mk ?_)
 all_goals first|exact ⟨rfl,⟨rfl,rfl,rfl,rfl,rfl,rfl,trivial⟩,⟨rfl,rfl,rfl,trivial⟩⟩|exact ⟨rfl,⟨rfl,rfl,rfl,rfl,trivial⟩,⟨rfl,rfl,rfl,trivial⟩⟩|exact ⟨rfl,⟨rfl,rfl,rfl,rfl,rfl,rfl,trivial⟩,⟨rfl,rfl,rfl,rfl,rfl,trivial⟩⟩|trivial|rfl|exact hp|omega|(exfalso;omega)|(exfalso;simp at *;done)|(exfalso;simp_all;done)|skip
set_option maxHeartbeats 16000000 in
theorem or2{m1 n1 m2 n2 m3 n3:Int}{k1 d1 e1 f1 k2 d2 e2 f2 k3 d3 e3 f3:Nat}{A1 B1 C1 A2 B2 C2:Rat}{m n k:Int}(hm:m = -1∨m=0∨m=1)(hn:n = -1∨n=0∨n=1)(hk:k = -1∨k=0∨k=1)(ht:m≤0→n≤0→k≤0∧(m<0∨n<0→k<0))(q1:Den Tryz.prog 6 [(Q3 A2 B2 C2),(Q3 A1 B1 C1)] (.int .i64 (-m))):awp (Den Tryz.prog) tab (cutC 1 (restC 4 (Tryz.f3.body.getD .skip))) (λz e b=>z=.normal∧SubE [(1,.ptr 1 0),(3,.ptr 3 0),(4,.ptr 4 0),(6,.int .i64 m)] e∧SubB [(1,.var [.v (.int .i16 m1),.v (.int .i16 n1),.v (.int .u16 (k1:Nat)),.v (.int .u8 (d1:Nat)),.v (.int .u8 (e1:Nat)),.v (.int .u8 (f1:Nat)),.v (.int .i16 m2),.v (.int .i16 n2),.v (.int .u16 (k2:Nat)),.v (.int .u8 (d2:Nat)),.v (.int .u8 (e2:Nat)),.v (.int .u8 (f2:Nat)),.v (.int .i16 m3),.v (.int .i16 n3),.v (.int .u16 (k3:Nat)),.v (.int .u8 (d3:Nat)),.v (.int .u8 (e3:Nat)),.v (.int .u8 (f3:Nat))]),(3,.var [zs A1.num,zl A1.num,zs A1.den,zl A1.den,zs B1.num,zl B1.num,zs B1.den,zl B1.den,zs C1.num,zl C1.num,zs C1.den,zl C1.den]),(4,.var [zs A2.num,zl A2.num,zs A2.den,zl A2.den,zs B2.num,zl B2.num,zs B2.den,zl B2.den,zs C2.num,zl C2.num,zs C2.den,zl C2.den])] b) [(1,.ptr 1 0),(3,.ptr 3 0),(4,.ptr 4 0),(6,.int .i64 m),(7,.int .i64 n),(8,.int .i64 k)] [(1,.var [.v (.int .i16 m1),.v (.int .i16 n1),.v (.int .u16 (k1:Nat)),.v (.int .u8 (d1:Nat)),.v (.int .u8 (e1:Nat)),.v (.int .u8 (f1:Nat)),.v (.int .i16 m2),.v (.int .i16 n2),.v (.int .u16 (k2:Nat)),.v (.int .u8 (d2:Nat)),.v (.int .u8 (e2:Nat)),.v (.int .u8 (f2:Nat)),.v (.int .i16 m3),.v (.int .i16 n3),.v (.int .u16 (k3:Nat)),.v (.int .u8 (d3:Nat)),.v (.int .u8 (e3:Nat)),.v (.int .u8 (f3:Nat))]),(3,.var [zs A1.num,zl A1.num,zs A1.den,zl A1.den,zs B1.num,zl B1.num,zs B1.den,zl B1.den,zs C1.num,zl C1.num,zs C1.den,zl C1.den]),(4,.var [zs A2.num,zl A2.num,zs A2.den,zl A2.den,zs B2.num,zl B2.num,zs B2.den,zl B2.den,zs C2.num,zl C2.num,zs C2.den,zl C2.den])]:=by
 haveI j1:DenI Tryz.prog 6 [(Q3 A2 B2 C2),(Q3 A1 B1 C1)] (True) (.int .i64 (-m)):=⟨λhp=>q1⟩
 rcases hm with rfl|rfl|rfl<;>rcases hn with rfl|rfl|rfl<;>rcases hk with rfl|rfl|rfl
 all_goals try (exfalso;omega)
 all_goals (repeat' ((try (conv=>whnf));first
  |refine call_0 ?_
  |refine call_i ?_ ?_
  |refine call_c ?_ (λ_=>?_) (λ_=>?_)
  |(with_reducible refine onB_t ?_)
  |(with_reducible refine onB_f ?_)
  |(with_reducible refine onB_d (λ_=>?_) (λ_=>?_))
  |(with_reducible refine onB_n (λ_=>?_) (λ_=>?_))
  |refine OnB.mk (λ_=>?_) (λ_=>?_)
  |refine obl_i ?_ ?_
  |refine Drw.mk (by kernel_rfl) ?_
  |refine mks_i ?_ ?_
  |refine slp_i ?_ ?_
  |(with_reducible refine elem_u ?_ ?_)
  |(with_reducible refine elem_0 ?_)
  |(with_reducible refine elem_1 ?_)
  |refine Ends.mk ?_))
 all_goals (try refine Pr.mk ?_)
 all_goals first|exact ⟨rfl,⟨rfl,rfl,rfl,rfl,rfl,rfl,trivial⟩,⟨rfl,rfl,rfl,trivial⟩⟩|exact ⟨rfl,⟨rfl,rfl,rfl,rfl,trivial⟩,⟨rfl,rfl,rfl,trivial⟩⟩|exact ⟨rfl,⟨rfl,rfl,rfl,rfl,rfl,rfl,trivial⟩,⟨rfl,rfl,rfl,rfl,rfl,trivial⟩⟩|trivial|rfl|exact hp|omega|(exfalso;omega)|(exfalso;simp at *;done)|(exfalso;simp_all;done)|skip
set_option maxHeartbeats 16000000 in
theorem or3_00{m1 n1 m2 n2 m3 n3:Int}{k1 d1 e1 f1 k2 d2 e2 f2 k3 d3 e3 f3:Nat}{A1 B1 C1 A2 B2 C2 A4 B4 C4 A5 B5 C5 A6 B6 C6:Rat}{m:Int}(hm:m = -1∨m=0∨m=1)(o4:Den Tryz.prog 5 [.agg [.v (.int .i16 m3),.v (.int .i16 n3),.v (.int .u16 (k1:Nat)),.v (.int .u8 (d3:Nat)),.v (.int .u8 (e3:Nat)),.v (.int .u8 (f1:Nat))]] ((Q3 A4 B4 C4)))(s1:Den Tryz.prog 7 [(Q3 A1 B1 C1),(Q3 A4 B4 C4)] (.tup [(Q3 A5 B5 C5),.int .i64 0]))(s2:Den Tryz.prog 7 [(Q3 A2 B2 C2),(Q3 A4 B4 C4)] (.tup [(Q3 A6 B6 C6),.int .i64 0]))(g:Den Tryz.prog 6 [(Q3 A5 B5 C5),(Q3 A6 B6 C6)] (.int .i64 m)):awp (Den Tryz.prog) tab (cutC 6 (restC 5 (Tryz.f3.body.getD .skip))) (λz e b=>z=.normal∧SubE [(3,.ptr 3 0),(4,.ptr 4 0),(6,.int .i64 m),(10,.ptr 10 0),(11,.ptr 11 0),(13,.ptr 13 0)] e∧SubB [(3,.var [zs A1.num,zl A1.num,zs A1.den,zl A1.den,zs B1.num,zl B1.num,zs B1.den,zl B1.den,zs C1.num,zl C1.num,zs C1.den,zl C1.den]),(4,.var [zs A2.num,zl A2.num,zs A2.den,zl A2.den,zs B2.num,zl B2.num,zs B2.den,zl B2.den,zs C2.num,zl C2.num,zs C2.den,zl C2.den]),(10,.var [zs A4.num,zl A4.num,zs A4.den,zl A4.den,zs B4.num,zl B4.num,zs B4.den,zl B4.den,zs C4.num,zl C4.num,zs C4.den,zl C4.den]),(11,.var [zs A5.num,zl A5.num,zs A5.den,zl A5.den,zs B5.num,zl B5.num,zs B5.den,zl B5.den,zs C5.num,zl C5.num,zs C5.den,zl C5.den]),(13,.var [zs A6.num,zl A6.num,zs A6.den,zl A6.den,zs B6.num,zl B6.num,zs B6.den,zl B6.den,zs C6.num,zl C6.num,zs C6.den,zl C6.den])] b) [(1,.ptr 1 0),(3,.ptr 3 0),(4,.ptr 4 0),(6,.int .i64 m)] [(1,.var [.v (.int .i16 m1),.v (.int .i16 n1),.v (.int .u16 (k1:Nat)),.v (.int .u8 (d1:Nat)),.v (.int .u8 (e1:Nat)),.v (.int .u8 (f1:Nat)),.v (.int .i16 m2),.v (.int .i16 n2),.v (.int .u16 (k2:Nat)),.v (.int .u8 (d2:Nat)),.v (.int .u8 (e2:Nat)),.v (.int .u8 (f2:Nat)),.v (.int .i16 m3),.v (.int .i16 n3),.v (.int .u16 (k3:Nat)),.v (.int .u8 (d3:Nat)),.v (.int .u8 (e3:Nat)),.v (.int .u8 (f3:Nat))]),(3,.var [zs A1.num,zl A1.num,zs A1.den,zl A1.den,zs B1.num,zl B1.num,zs B1.den,zl B1.den,zs C1.num,zl C1.num,zs C1.den,zl C1.den]),(4,.var [zs A2.num,zl A2.num,zs A2.den,zl A2.den,zs B2.num,zl B2.num,zs B2.den,zl B2.den,zs C2.num,zl C2.num,zs C2.den,zl C2.den])]:=by
 haveI i4:DenI Tryz.prog 5 [.agg [.v (.int .i16 m3),.v (.int .i16 n3),.v (.int .u16 (k1:Nat)),.v (.int .u8 (d3:Nat)),.v (.int .u8 (e3:Nat)),.v (.int .u8 (f1:Nat))]] (True) ((Q3 A4 B4 C4)):=⟨λhp=>o4⟩
 haveI j1:DenI Tryz.prog 7 [(Q3 A1 B1 C1),(Q3 A4 B4 C4)] (True) (.tup [(Q3 A5 B5 C5),.int .i64 0]):=⟨λhp=>s1⟩
 haveI j2:DenI Tryz.prog 7 [(Q3 A2 B2 C2),(Q3 A4 B4 C4)] (True) (.tup [(Q3 A6 B6 C6),.int .i64 0]):=⟨λhp=>s2⟩
 haveI j3:DenI Tryz.prog 6 [(Q3 A5 B5 C5),(Q3 A6 B6 C6)] (True) (.int .i64 (m)):=⟨λhp=>g⟩
 rcases hm with rfl|rfl|rfl
 all_goals (repeat' ((try (conv=>whnf));first
  |refine call_0 ?_
  |refine call_i ?_ ?_
  |refine call_c ?_ (λ_=>?_) (λ_=>?_)
  |(with_reducible refine onB_t ?_)
  |(with_reducible refine onB_f ?_)
  |(with_reducible refine onB_d (λ_=>?_) (λ_=>?_))
  |(with_reducible refine onB_n (λ_=>?_) (λ_=>?_))
  |refine OnB.mk (λ_=>?_) (λ_=>?_)
  |refine obl_i ?_ ?_
  |refine Drw.mk (by kernel_rfl) ?_
  |refine mks_i ?_ ?_
  |refine slp_i ?_ ?_
  |(with_reducible refine elem_u ?_ ?_)
  |(with_reducible refine elem_0 ?_)
  |(with_reducible refine elem_1 ?_)
  |refine Ends.mk ?_))
 all_goals (try refine Pr.mk ?_)
 all_goals first|exact ⟨rfl,⟨rfl,rfl,rfl,rfl,rfl,rfl,trivial⟩,⟨rfl,rfl,rfl,trivial⟩⟩|exact ⟨rfl,⟨rfl,rfl,rfl,rfl,trivial⟩,⟨rfl,rfl,rfl,trivial⟩⟩|exact ⟨rfl,⟨rfl,rfl,rfl,rfl,rfl,rfl,trivial⟩,⟨rfl,rfl,rfl,rfl,rfl,trivial⟩⟩|trivial|rfl|exact hp|omega|(exfalso;omega)|(exfalso;simp at *;done)|(exfalso;simp_all;done)|skip
set_option maxHeartbeats 16000000 in
theorem or3_01{m1 n1 m2 n2 m3 n3:Int}{k1 d1 e1 f1 k2 d2 e2 f2 k3 d3 e3 f3:Nat}{A1 B1 C1 A2 B2 C2 A4 B4 C4 A5 B5 C5:Rat}{m:Int}(hm:m = -1∨m=0∨m=1)(o4:Den Tryz.prog 5 [.agg [.v (.int .i16 m3),.v (.int .i16 n3),.v (.int .u16 (k1:Nat)),.v (.int .u8 (d3:Nat)),.v (.int .u8 (e3:Nat)),.v (.int .u8 (f1:Nat))]] ((Q3 A4 B4 C4)))(s1:Den Tryz.prog 7 [(Q3 A1 B1 C1),(Q3 A4 B4 C4)] (.tup [(Q3 A5 B5 C5),.int .i64 0]))(s2:Den Tryz.prog 7 [(Q3 A2 B2 C2),(Q3 A4 B4 C4)] (.tup [ZQ3,.int .i64 1])):awp (Den Tryz.prog) tab (cutC 6 (restC 5 (Tryz.f3.body.getD .skip))) (λz e b=>z=.normal∧SubE [(3,.ptr 3 0),(4,.ptr 4 0),(6,.int .i64 m),(10,.ptr 10 0),(11,.ptr 11 0),(13,.ptr 13 0)] e∧SubB [(3,.var [zs A1.num,zl A1.num,zs A1.den,zl A1.den,zs B1.num,zl B1.num,zs B1.den,zl B1.den,zs C1.num,zl C1.num,zs C1.den,zl C1.den]),(4,.var [zs A2.num,zl A2.num,zs A2.den,zl A2.den,zs B2.num,zl B2.num,zs B2.den,zl B2.den,zs C2.num,zl C2.num,zs C2.den,zl C2.den]),(10,.var [zs A4.num,zl A4.num,zs A4.den,zl A4.den,zs B4.num,zl B4.num,zs B4.den,zl B4.den,zs C4.num,zl C4.num,zs C4.den,zl C4.den]),(11,.var [zs A5.num,zl A5.num,zs A5.den,zl A5.den,zs B5.num,zl B5.num,zs B5.den,zl B5.den,zs C5.num,zl C5.num,zs C5.den,zl C5.den]),(13,.var [.v (.bool false),.sl 1 [],.v (.bool false),.sl 1 [],.v (.bool false),.sl 1 [],.v (.bool false),.sl 1 [],.v (.bool false),.sl 1 [],.v (.bool false),.sl 1 []])] b) [(1,.ptr 1 0),(3,.ptr 3 0),(4,.ptr 4 0),(6,.int .i64 m)] [(1,.var [.v (.int .i16 m1),.v (.int .i16 n1),.v (.int .u16 (k1:Nat)),.v (.int .u8 (d1:Nat)),.v (.int .u8 (e1:Nat)),.v (.int .u8 (f1:Nat)),.v (.int .i16 m2),.v (.int .i16 n2),.v (.int .u16 (k2:Nat)),.v (.int .u8 (d2:Nat)),.v (.int .u8 (e2:Nat)),.v (.int .u8 (f2:Nat)),.v (.int .i16 m3),.v (.int .i16 n3),.v (.int .u16 (k3:Nat)),.v (.int .u8 (d3:Nat)),.v (.int .u8 (e3:Nat)),.v (.int .u8 (f3:Nat))]),(3,.var [zs A1.num,zl A1.num,zs A1.den,zl A1.den,zs B1.num,zl B1.num,zs B1.den,zl B1.den,zs C1.num,zl C1.num,zs C1.den,zl C1.den]),(4,.var [zs A2.num,zl A2.num,zs A2.den,zl A2.den,zs B2.num,zl B2.num,zs B2.den,zl B2.den,zs C2.num,zl C2.num,zs C2.den,zl C2.den])]:=by
 haveI i4:DenI Tryz.prog 5 [.agg [.v (.int .i16 m3),.v (.int .i16 n3),.v (.int .u16 (k1:Nat)),.v (.int .u8 (d3:Nat)),.v (.int .u8 (e3:Nat)),.v (.int .u8 (f1:Nat))]] (True) ((Q3 A4 B4 C4)):=⟨λhp=>o4⟩
 haveI j1:DenI Tryz.prog 7 [(Q3 A1 B1 C1),(Q3 A4 B4 C4)] (True) (.tup [(Q3 A5 B5 C5),.int .i64 0]):=⟨λhp=>s1⟩
 haveI j2:DenI Tryz.prog 7 [(Q3 A2 B2 C2),(Q3 A4 B4 C4)] (True) (.tup [ZQ3,.int .i64 1]):=⟨λhp=>s2⟩
 all_goals (repeat' ((try (conv=>whnf));first
  |refine call_0 ?_
  |refine call_i ?_ ?_
  |refine call_c ?_ (λ_=>?_) (λ_=>?_)
  |(with_reducible refine onB_t ?_)
  |(with_reducible refine onB_f ?_)
  |(with_reducible refine onB_d (λ_=>?_) (λ_=>?_))
  |(with_reducible refine onB_n (λ_=>?_) (λ_=>?_))
  |refine OnB.mk (λ_=>?_) (λ_=>?_)
  |refine obl_i ?_ ?_
  |refine Drw.mk (by kernel_rfl) ?_
  |refine mks_i ?_ ?_
  |refine slp_i ?_ ?_
  |(with_reducible refine elem_u ?_ ?_)
  |(with_reducible refine elem_0 ?_)
  |(with_reducible refine elem_1 ?_)
  |refine Ends.mk ?_))
 all_goals (try refine Pr.mk ?_)
 all_goals first|exact ⟨rfl,⟨rfl,rfl,rfl,rfl,rfl,rfl,trivial⟩,⟨rfl,rfl,rfl,trivial⟩⟩|exact ⟨rfl,⟨rfl,rfl,rfl,rfl,trivial⟩,⟨rfl,rfl,rfl,trivial⟩⟩|exact ⟨rfl,⟨rfl,rfl,rfl,rfl,rfl,rfl,trivial⟩,⟨rfl,rfl,rfl,rfl,rfl,trivial⟩⟩|trivial|rfl|exact hp|omega|(exfalso;omega)|(exfalso;simp at *;done)|(exfalso;simp_all;done)|skip
set_option maxHeartbeats 16000000 in
theorem or3_10{m1 n1 m2 n2 m3 n3:Int}{k1 d1 e1 f1 k2 d2 e2 f2 k3 d3 e3 f3:Nat}{A1 B1 C1 A2 B2 C2 A4 B4 C4 A6 B6 C6:Rat}{m:Int}(hm:m = -1∨m=0∨m=1)(o4:Den Tryz.prog 5 [.agg [.v (.int .i16 m3),.v (.int .i16 n3),.v (.int .u16 (k1:Nat)),.v (.int .u8 (d3:Nat)),.v (.int .u8 (e3:Nat)),.v (.int .u8 (f1:Nat))]] ((Q3 A4 B4 C4)))(s1:Den Tryz.prog 7 [(Q3 A1 B1 C1),(Q3 A4 B4 C4)] (.tup [ZQ3,.int .i64 1]))(s2:Den Tryz.prog 7 [(Q3 A2 B2 C2),(Q3 A4 B4 C4)] (.tup [(Q3 A6 B6 C6),.int .i64 0])):awp (Den Tryz.prog) tab (cutC 6 (restC 5 (Tryz.f3.body.getD .skip))) (λz e b=>z=.normal∧SubE [(3,.ptr 3 0),(4,.ptr 4 0),(6,.int .i64 m),(10,.ptr 10 0),(11,.ptr 11 0),(13,.ptr 13 0)] e∧SubB [(3,.var [zs A1.num,zl A1.num,zs A1.den,zl A1.den,zs B1.num,zl B1.num,zs B1.den,zl B1.den,zs C1.num,zl C1.num,zs C1.den,zl C1.den]),(4,.var [zs A2.num,zl A2.num,zs A2.den,zl A2.den,zs B2.num,zl B2.num,zs B2.den,zl B2.den,zs C2.num,zl C2.num,zs C2.den,zl C2.den]),(10,.var [zs A4.num,zl A4.num,zs A4.den,zl A4.den,zs B4.num,zl B4.num,zs B4.den,zl B4.den,zs C4.num,zl C4.num,zs C4.den,zl C4.den]),(11,.var [.v (.bool false),.sl 1 [],.v (.bool false),.sl 1 [],.v (.bool false),.sl 1 [],.v (.bool false),.sl 1 [],.v (.bool false),.sl 1 [],.v (.bool false),.sl 1 []]),(13,.var [zs A6.num,zl A6.num,zs A6.den,zl A6.den,zs B6.num,zl B6.num,zs B6.den,zl B6.den,zs C6.num,zl C6.num,zs C6.den,zl C6.den])] b) [(1,.ptr 1 0),(3,.ptr 3 0),(4,.ptr 4 0),(6,.int .i64 m)] [(1,.var [.v (.int .i16 m1),.v (.int .i16 n1),.v (.int .u16 (k1:Nat)),.v (.int .u8 (d1:Nat)),.v (.int .u8 (e1:Nat)),.v (.int .u8 (f1:Nat)),.v (.int .i16 m2),.v (.int .i16 n2),.v (.int .u16 (k2:Nat)),.v (.int .u8 (d2:Nat)),.v (.int .u8 (e2:Nat)),.v (.int .u8 (f2:Nat)),.v (.int .i16 m3),.v (.int .i16 n3),.v (.int .u16 (k3:Nat)),.v (.int .u8 (d3:Nat)),.v (.int .u8 (e3:Nat)),.v (.int .u8 (f3:Nat))]),(3,.var [zs A1.num,zl A1.num,zs A1.den,zl A1.den,zs B1.num,zl B1.num,zs B1.den,zl B1.den,zs C1.num,zl C1.num,zs C1.den,zl C1.den]),(4,.var [zs A2.num,zl A2.num,zs A2.den,zl A2.den,zs B2.num,zl B2.num,zs B2.den,zl B2.den,zs C2.num,zl C2.num,zs C2.den,zl C2.den])]:=by
 haveI i4:DenI Tryz.prog 5 [.agg [.v (.int .i16 m3),.v (.int .i16 n3),.v (.int .u16 (k1:Nat)),.v (.int .u8 (d3:Nat)),.v (.int .u8 (e3:Nat)),.v (.int .u8 (f1:Nat))]] (True) ((Q3 A4 B4 C4)):=⟨λhp=>o4⟩
 haveI j1:DenI Tryz.prog 7 [(Q3 A1 B1 C1),(Q3 A4 B4 C4)] (True) (.tup [ZQ3,.int .i64 1]):=⟨λhp=>s1⟩
 haveI j2:DenI Tryz.prog 7 [(Q3 A2 B2 C2),(Q3 A4 B4 C4)] (True) (.tup [(Q3 A6 B6 C6),.int .i64 0]):=⟨λhp=>s2⟩
 all_goals (repeat' ((try (conv=>whnf));first
  |refine call_0 ?_
  |refine call_i ?_ ?_
  |refine call_c ?_ (λ_=>?_) (λ_=>?_)
  |(with_reducible refine onB_t ?_)
  |(with_reducible refine onB_f ?_)
  |(with_reducible refine onB_d (λ_=>?_) (λ_=>?_))
  |(with_reducible refine onB_n (λ_=>?_) (λ_=>?_))
  |refine OnB.mk (λ_=>?_) (λ_=>?_)
  |refine obl_i ?_ ?_
  |refine Drw.mk (by kernel_rfl) ?_
  |refine mks_i ?_ ?_
  |refine slp_i ?_ ?_
  |(with_reducible refine elem_u ?_ ?_)
  |(with_reducible refine elem_0 ?_)
  |(with_reducible refine elem_1 ?_)
  |refine Ends.mk ?_))
 all_goals (try refine Pr.mk ?_)
 all_goals first|exact ⟨rfl,⟨rfl,rfl,rfl,rfl,rfl,rfl,trivial⟩,⟨rfl,rfl,rfl,trivial⟩⟩|exact ⟨rfl,⟨rfl,rfl,rfl,rfl,trivial⟩,⟨rfl,rfl,rfl,trivial⟩⟩|exact ⟨rfl,⟨rfl,rfl,rfl,rfl,rfl,rfl,trivial⟩,⟨rfl,rfl,rfl,rfl,rfl,trivial⟩⟩|trivial|rfl|exact hp|omega|(exfalso;omega)|(exfalso;simp at *;done)|(exfalso;simp_all;done)|skip
set_option maxHeartbeats 16000000 in
theorem or3_11{m1 n1 m2 n2 m3 n3:Int}{k1 d1 e1 f1 k2 d2 e2 f2 k3 d3 e3 f3:Nat}{A1 B1 C1 A2 B2 C2 A4 B4 C4:Rat}{m:Int}(hm:m = -1∨m=0∨m=1)(o4:Den Tryz.prog 5 [.agg [.v (.int .i16 m3),.v (.int .i16 n3),.v (.int .u16 (k1:Nat)),.v (.int .u8 (d3:Nat)),.v (.int .u8 (e3:Nat)),.v (.int .u8 (f1:Nat))]] ((Q3 A4 B4 C4)))(s1:Den Tryz.prog 7 [(Q3 A1 B1 C1),(Q3 A4 B4 C4)] (.tup [ZQ3,.int .i64 1]))(s2:Den Tryz.prog 7 [(Q3 A2 B2 C2),(Q3 A4 B4 C4)] (.tup [ZQ3,.int .i64 1])):awp (Den Tryz.prog) tab (cutC 6 (restC 5 (Tryz.f3.body.getD .skip))) (λz e b=>z=.normal∧SubE [(3,.ptr 3 0),(4,.ptr 4 0),(6,.int .i64 m),(10,.ptr 10 0),(11,.ptr 11 0),(13,.ptr 13 0)] e∧SubB [(3,.var [zs A1.num,zl A1.num,zs A1.den,zl A1.den,zs B1.num,zl B1.num,zs B1.den,zl B1.den,zs C1.num,zl C1.num,zs C1.den,zl C1.den]),(4,.var [zs A2.num,zl A2.num,zs A2.den,zl A2.den,zs B2.num,zl B2.num,zs B2.den,zl B2.den,zs C2.num,zl C2.num,zs C2.den,zl C2.den]),(10,.var [zs A4.num,zl A4.num,zs A4.den,zl A4.den,zs B4.num,zl B4.num,zs B4.den,zl B4.den,zs C4.num,zl C4.num,zs C4.den,zl C4.den]),(11,.var [.v (.bool false),.sl 1 [],.v (.bool false),.sl 1 [],.v (.bool false),.sl 1 [],.v (.bool false),.sl 1 [],.v (.bool false),.sl 1 [],.v (.bool false),.sl 1 []]),(13,.var [.v (.bool false),.sl 1 [],.v (.bool false),.sl 1 [],.v (.bool false),.sl 1 [],.v (.bool false),.sl 1 [],.v (.bool false),.sl 1 [],.v (.bool false),.sl 1 []])] b) [(1,.ptr 1 0),(3,.ptr 3 0),(4,.ptr 4 0),(6,.int .i64 m)] [(1,.var [.v (.int .i16 m1),.v (.int .i16 n1),.v (.int .u16 (k1:Nat)),.v (.int .u8 (d1:Nat)),.v (.int .u8 (e1:Nat)),.v (.int .u8 (f1:Nat)),.v (.int .i16 m2),.v (.int .i16 n2),.v (.int .u16 (k2:Nat)),.v (.int .u8 (d2:Nat)),.v (.int .u8 (e2:Nat)),.v (.int .u8 (f2:Nat)),.v (.int .i16 m3),.v (.int .i16 n3),.v (.int .u16 (k3:Nat)),.v (.int .u8 (d3:Nat)),.v (.int .u8 (e3:Nat)),.v (.int .u8 (f3:Nat))]),(3,.var [zs A1.num,zl A1.num,zs A1.den,zl A1.den,zs B1.num,zl B1.num,zs B1.den,zl B1.den,zs C1.num,zl C1.num,zs C1.den,zl C1.den]),(4,.var [zs A2.num,zl A2.num,zs A2.den,zl A2.den,zs B2.num,zl B2.num,zs B2.den,zl B2.den,zs C2.num,zl C2.num,zs C2.den,zl C2.den])]:=by
 haveI i4:DenI Tryz.prog 5 [.agg [.v (.int .i16 m3),.v (.int .i16 n3),.v (.int .u16 (k1:Nat)),.v (.int .u8 (d3:Nat)),.v (.int .u8 (e3:Nat)),.v (.int .u8 (f1:Nat))]] (True) ((Q3 A4 B4 C4)):=⟨λhp=>o4⟩
 haveI j1:DenI Tryz.prog 7 [(Q3 A1 B1 C1),(Q3 A4 B4 C4)] (True) (.tup [ZQ3,.int .i64 1]):=⟨λhp=>s1⟩
 haveI j2:DenI Tryz.prog 7 [(Q3 A2 B2 C2),(Q3 A4 B4 C4)] (True) (.tup [ZQ3,.int .i64 1]):=⟨λhp=>s2⟩
 all_goals (repeat' ((try (conv=>whnf));first
  |refine call_0 ?_
  |refine call_i ?_ ?_
  |refine call_c ?_ (λ_=>?_) (λ_=>?_)
  |(with_reducible refine onB_t ?_)
  |(with_reducible refine onB_f ?_)
  |(with_reducible refine onB_d (λ_=>?_) (λ_=>?_))
  |(with_reducible refine onB_n (λ_=>?_) (λ_=>?_))
  |refine OnB.mk (λ_=>?_) (λ_=>?_)
  |refine obl_i ?_ ?_
  |refine Drw.mk (by kernel_rfl) ?_
  |refine mks_i ?_ ?_
  |refine slp_i ?_ ?_
  |(with_reducible refine elem_u ?_ ?_)
  |(with_reducible refine elem_0 ?_)
  |(with_reducible refine elem_1 ?_)
  |refine Ends.mk ?_))
 all_goals (try refine Pr.mk ?_)
 all_goals first|exact ⟨rfl,⟨rfl,rfl,rfl,rfl,rfl,rfl,trivial⟩,⟨rfl,rfl,rfl,trivial⟩⟩|exact ⟨rfl,⟨rfl,rfl,rfl,rfl,trivial⟩,⟨rfl,rfl,rfl,trivial⟩⟩|exact ⟨rfl,⟨rfl,rfl,rfl,rfl,rfl,rfl,trivial⟩,⟨rfl,rfl,rfl,rfl,rfl,trivial⟩⟩|trivial|rfl|exact hp|omega|(exfalso;omega)|(exfalso;simp at *;done)|(exfalso;simp_all;done)|skip
set_option maxHeartbeats 16000000 in
theorem or4_00{A1 B1 C1 A2 B2 C2 A4 B4 C4 A5 B5 C5 A6 B6 C6:Rat}{x0 x1 x2 x3 x4 x5 x6 x7 x8 x9 x10 x11 y0 y1 y2 y3 y4 y5 y6 y7 y8 y9 y10 y11:Cell}{m s:Int}(hm:m = -1∨m=0∨m=1)(hs:s = -1∨s=0∨s=1)(sg:Den Tryz.prog 9 [(Q3 A4 B4 C4)] (.int .i64 s))(s1:Den Tryz.prog 8 [(Q3 A1 B1 C1),(Q3 A4 B4 C4)] (.tup [(Q3 A5 B5 C5),.int .i64 0]))(s2:Den Tryz.prog 8 [(Q3 A2 B2 C2),(Q3 A4 B4 C4)] (.tup [(Q3 A6 B6 C6),.int .i64 0]))(g:Den Tryz.prog 6 [(Q3 A5 B5 C5),(Q3 A6 B6 C6)] (.int .i64 (m*s))):awp (Den Tryz.prog) tab (restC 11 (Tryz.f3.body.getD .skip)) (endO tab Tryz.f3 [none] (.bool true)) [(3,.ptr 3 0),(4,.ptr 4 0),(6,.int .i64 m),(10,.ptr 10 0),(11,.ptr 11 0),(13,.ptr 13 0)] [(3,.var [zs A1.num,zl A1.num,zs A1.den,zl A1.den,zs B1.num,zl B1.num,zs B1.den,zl B1.den,zs C1.num,zl C1.num,zs C1.den,zl C1.den]),(4,.var [zs A2.num,zl A2.num,zs A2.den,zl A2.den,zs B2.num,zl B2.num,zs B2.den,zl B2.den,zs C2.num,zl C2.num,zs C2.den,zl C2.den]),(10,.var [zs A4.num,zl A4.num,zs A4.den,zl A4.den,zs B4.num,zl B4.num,zs B4.den,zl B4.den,zs C4.num,zl C4.num,zs C4.den,zl C4.den]),(11,.var [x0,x1,x2,x3,x4,x5,x6,x7,x8,x9,x10,x11]),(13,.var [y0,y1,y2,y3,y4,y5,y6,y7,y8,y9,y10,y11])]:=by
 haveI i4:DenI Tryz.prog 9 [(Q3 A4 B4 C4)] (True) (.int .i64 s):=⟨λhp=>sg⟩
 haveI j1:DenI Tryz.prog 8 [(Q3 A1 B1 C1),(Q3 A4 B4 C4)] (True) (.tup [(Q3 A5 B5 C5),.int .i64 0]):=⟨λhp=>s1⟩
 haveI j2:DenI Tryz.prog 8 [(Q3 A2 B2 C2),(Q3 A4 B4 C4)] (True) (.tup [(Q3 A6 B6 C6),.int .i64 0]):=⟨λhp=>s2⟩
 haveI j3:DenI Tryz.prog 6 [(Q3 A5 B5 C5),(Q3 A6 B6 C6)] (True) (.int .i64 (m*s)):=⟨λhp=>g⟩
 rcases hm with rfl|rfl|rfl<;>rcases hs with rfl|rfl|rfl
 all_goals (repeat' ((try (conv=>whnf));first
  |refine call_0 ?_
  |refine call_i ?_ ?_
  |refine call_c ?_ (λ_=>?_) (λ_=>?_)
  |(with_reducible refine onB_t ?_)
  |(with_reducible refine onB_f ?_)
  |(with_reducible refine onB_d (λ_=>?_) (λ_=>?_))
  |(with_reducible refine onB_n (λ_=>?_) (λ_=>?_))
  |refine OnB.mk (λ_=>?_) (λ_=>?_)
  |refine obl_i ?_ ?_
  |refine Drw.mk (by kernel_rfl) ?_
  |refine mks_i ?_ ?_
  |refine slp_i ?_ ?_
  |(with_reducible refine elem_u ?_ ?_)
  |(with_reducible refine elem_0 ?_)
  |(with_reducible refine elem_1 ?_)
  |refine Ends.mk ?_))
 all_goals (try refine Pr.mk ?_)
 all_goals first|exact ⟨rfl,⟨rfl,rfl,rfl,rfl,rfl,rfl,trivial⟩,⟨rfl,rfl,rfl,trivial⟩⟩|exact ⟨rfl,⟨rfl,rfl,rfl,rfl,trivial⟩,⟨rfl,rfl,rfl,trivial⟩⟩|exact ⟨rfl,⟨rfl,rfl,rfl,rfl,rfl,rfl,trivial⟩,⟨rfl,rfl,rfl,rfl,rfl,trivial⟩⟩|trivial|rfl|exact hp|omega|(exfalso;omega)|(exfalso;simp at *;done)|(exfalso;simp_all;done)|skip
set_option maxHeartbeats 16000000 in
theorem or4_01{A1 B1 C1 A2 B2 C2 A4 B4 C4 A5 B5 C5:Rat}{x0 x1 x2 x3 x4 x5 x6 x7 x8 x9 x10 x11 y0 y1 y2 y3 y4 y5 y6 y7 y8 y9 y10 y11:Cell}{m s:Int}(hm:m = -1∨m=0∨m=1)(hs:s = -1∨s=0∨s=1)(sg:Den Tryz.prog 9 [(Q3 A4 B4 C4)] (.int .i64 s))(s1:Den Tryz.prog 8 [(Q3 A1 B1 C1),(Q3 A4 B4 C4)] (.tup [(Q3 A5 B5 C5),.int .i64 0]))(s2:Den Tryz.prog 8 [(Q3 A2 B2 C2),(Q3 A4 B4 C4)] (.tup [ZQ3,.int .i64 1])):awp (Den Tryz.prog) tab (restC 11 (Tryz.f3.body.getD .skip)) (endO tab Tryz.f3 [none] (.bool true)) [(3,.ptr 3 0),(4,.ptr 4 0),(6,.int .i64 m),(10,.ptr 10 0),(11,.ptr 11 0),(13,.ptr 13 0)] [(3,.var [zs A1.num,zl A1.num,zs A1.den,zl A1.den,zs B1.num,zl B1.num,zs B1.den,zl B1.den,zs C1.num,zl C1.num,zs C1.den,zl C1.den]),(4,.var [zs A2.num,zl A2.num,zs A2.den,zl A2.den,zs B2.num,zl B2.num,zs B2.den,zl B2.den,zs C2.num,zl C2.num,zs C2.den,zl C2.den]),(10,.var [zs A4.num,zl A4.num,zs A4.den,zl A4.den,zs B4.num,zl B4.num,zs B4.den,zl B4.den,zs C4.num,zl C4.num,zs C4.den,zl C4.den]),(11,.var [x0,x1,x2,x3,x4,x5,x6,x7,x8,x9,x10,x11]),(13,.var [y0,y1,y2,y3,y4,y5,y6,y7,y8,y9,y10,y11])]:=by
 haveI i4:DenI Tryz.prog 9 [(Q3 A4 B4 C4)] (True) (.int .i64 s):=⟨λhp=>sg⟩
 haveI j1:DenI Tryz.prog 8 [(Q3 A1 B1 C1),(Q3 A4 B4 C4)] (True) (.tup [(Q3 A5 B5 C5),.int .i64 0]):=⟨λhp=>s1⟩
 haveI j2:DenI Tryz.prog 8 [(Q3 A2 B2 C2),(Q3 A4 B4 C4)] (True) (.tup [ZQ3,.int .i64 1]):=⟨λhp=>s2⟩
 all_goals (repeat' ((try (conv=>whnf));first
  |refine call_0 ?_
  |refine call_i ?_ ?_
  |refine call_c ?_ (λ_=>?_) (λ_=>?_)
  |(with_reducible refine onB_t ?_)
  |(with_reducible refine onB_f ?_)
  |(with_reducible refine onB_d (λ_=>?_) (λ_=>?_))
  |(with_reducible refine onB_n (λ_=>?_) (λ_=>?_))
  |refine OnB.mk (λ_=>?_) (λ_=>?_)
  |refine obl_i ?_ ?_
  |refine Drw.mk (by kernel_rfl) ?_
  |refine mks_i ?_ ?_
  |refine slp_i ?_ ?_
  |(with_reducible refine elem_u ?_ ?_)
  |(with_reducible refine elem_0 ?_)
  |(with_reducible refine elem_1 ?_)
  |refine Ends.mk ?_))
 all_goals (try refine Pr.mk ?_)
 all_goals first|exact ⟨rfl,⟨rfl,rfl,rfl,rfl,rfl,rfl,trivial⟩,⟨rfl,rfl,rfl,trivial⟩⟩|exact ⟨rfl,⟨rfl,rfl,rfl,rfl,trivial⟩,⟨rfl,rfl,rfl,trivial⟩⟩|exact ⟨rfl,⟨rfl,rfl,rfl,rfl,rfl,rfl,trivial⟩,⟨rfl,rfl,rfl,rfl,rfl,trivial⟩⟩|trivial|rfl|exact hp|omega|(exfalso;omega)|(exfalso;simp at *;done)|(exfalso;simp_all;done)|skip
set_option maxHeartbeats 16000000 in
theorem or4_10{A1 B1 C1 A2 B2 C2 A4 B4 C4 A6 B6 C6:Rat}{x0 x1 x2 x3 x4 x5 x6 x7 x8 x9 x10 x11 y0 y1 y2 y3 y4 y5 y6 y7 y8 y9 y10 y11:Cell}{m s:Int}(hm:m = -1∨m=0∨m=1)(hs:s = -1∨s=0∨s=1)(sg:Den Tryz.prog 9 [(Q3 A4 B4 C4)] (.int .i64 s))(s1:Den Tryz.prog 8 [(Q3 A1 B1 C1),(Q3 A4 B4 C4)] (.tup [ZQ3,.int .i64 1]))(s2:Den Tryz.prog 8 [(Q3 A2 B2 C2),(Q3 A4 B4 C4)] (.tup [(Q3 A6 B6 C6),.int .i64 0])):awp (Den Tryz.prog) tab (restC 11 (Tryz.f3.body.getD .skip)) (endO tab Tryz.f3 [none] (.bool true)) [(3,.ptr 3 0),(4,.ptr 4 0),(6,.int .i64 m),(10,.ptr 10 0),(11,.ptr 11 0),(13,.ptr 13 0)] [(3,.var [zs A1.num,zl A1.num,zs A1.den,zl A1.den,zs B1.num,zl B1.num,zs B1.den,zl B1.den,zs C1.num,zl C1.num,zs C1.den,zl C1.den]),(4,.var [zs A2.num,zl A2.num,zs A2.den,zl A2.den,zs B2.num,zl B2.num,zs B2.den,zl B2.den,zs C2.num,zl C2.num,zs C2.den,zl C2.den]),(10,.var [zs A4.num,zl A4.num,zs A4.den,zl A4.den,zs B4.num,zl B4.num,zs B4.den,zl B4.den,zs C4.num,zl C4.num,zs C4.den,zl C4.den]),(11,.var [x0,x1,x2,x3,x4,x5,x6,x7,x8,x9,x10,x11]),(13,.var [y0,y1,y2,y3,y4,y5,y6,y7,y8,y9,y10,y11])]:=by
 haveI i4:DenI Tryz.prog 9 [(Q3 A4 B4 C4)] (True) (.int .i64 s):=⟨λhp=>sg⟩
 haveI j1:DenI Tryz.prog 8 [(Q3 A1 B1 C1),(Q3 A4 B4 C4)] (True) (.tup [ZQ3,.int .i64 1]):=⟨λhp=>s1⟩
 haveI j2:DenI Tryz.prog 8 [(Q3 A2 B2 C2),(Q3 A4 B4 C4)] (True) (.tup [(Q3 A6 B6 C6),.int .i64 0]):=⟨λhp=>s2⟩
 all_goals (repeat' ((try (conv=>whnf));first
  |refine call_0 ?_
  |refine call_i ?_ ?_
  |refine call_c ?_ (λ_=>?_) (λ_=>?_)
  |(with_reducible refine onB_t ?_)
  |(with_reducible refine onB_f ?_)
  |(with_reducible refine onB_d (λ_=>?_) (λ_=>?_))
  |(with_reducible refine onB_n (λ_=>?_) (λ_=>?_))
  |refine OnB.mk (λ_=>?_) (λ_=>?_)
  |refine obl_i ?_ ?_
  |refine Drw.mk (by kernel_rfl) ?_
  |refine mks_i ?_ ?_
  |refine slp_i ?_ ?_
  |(with_reducible refine elem_u ?_ ?_)
  |(with_reducible refine elem_0 ?_)
  |(with_reducible refine elem_1 ?_)
  |refine Ends.mk ?_))
 all_goals (try refine Pr.mk ?_)
 all_goals first|exact ⟨rfl,⟨rfl,rfl,rfl,rfl,rfl,rfl,trivial⟩,⟨rfl,rfl,rfl,trivial⟩⟩|exact ⟨rfl,⟨rfl,rfl,rfl,rfl,trivial⟩,⟨rfl,rfl,rfl,trivial⟩⟩|exact ⟨rfl,⟨rfl,rfl,rfl,rfl,rfl,rfl,trivial⟩,⟨rfl,rfl,rfl,rfl,rfl,trivial⟩⟩|trivial|rfl|exact hp|omega|(exfalso;omega)|(exfalso;simp at *;done)|(exfalso;simp_all;done)|skip
set_option maxHeartbeats 16000000 in
theorem or4_11{A1 B1 C1 A2 B2 C2 A4 B4 C4:Rat}{x0 x1 x2 x3 x4 x5 x6 x7 x8 x9 x10 x11 y0 y1 y2 y3 y4 y5 y6 y7 y8 y9 y10 y11:Cell}{m s:Int}(hm:m = -1∨m=0∨m=1)(hs:s = -1∨s=0∨s=1)(sg:Den Tryz.prog 9 [(Q3 A4 B4 C4)] (.int .i64 s))(s1:Den Tryz.prog 8 [(Q3 A1 B1 C1),(Q3 A4 B4 C4)] (.tup [ZQ3,.int .i64 1]))(s2:Den Tryz.prog 8 [(Q3 A2 B2 C2),(Q3 A4 B4 C4)] (.tup [ZQ3,.int .i64 1])):awp (Den Tryz.prog) tab (restC 11 (Tryz.f3.body.getD .skip)) (endO tab Tryz.f3 [none] (.bool true)) [(3,.ptr 3 0),(4,.ptr 4 0),(6,.int .i64 m),(10,.ptr 10 0),(11,.ptr 11 0),(13,.ptr 13 0)] [(3,.var [zs A1.num,zl A1.num,zs A1.den,zl A1.den,zs B1.num,zl B1.num,zs B1.den,zl B1.den,zs C1.num,zl C1.num,zs C1.den,zl C1.den]),(4,.var [zs A2.num,zl A2.num,zs A2.den,zl A2.den,zs B2.num,zl B2.num,zs B2.den,zl B2.den,zs C2.num,zl C2.num,zs C2.den,zl C2.den]),(10,.var [zs A4.num,zl A4.num,zs A4.den,zl A4.den,zs B4.num,zl B4.num,zs B4.den,zl B4.den,zs C4.num,zl C4.num,zs C4.den,zl C4.den]),(11,.var [x0,x1,x2,x3,x4,x5,x6,x7,x8,x9,x10,x11]),(13,.var [y0,y1,y2,y3,y4,y5,y6,y7,y8,y9,y10,y11])]:=by
 haveI i4:DenI Tryz.prog 9 [(Q3 A4 B4 C4)] (True) (.int .i64 s):=⟨λhp=>sg⟩
 haveI j1:DenI Tryz.prog 8 [(Q3 A1 B1 C1),(Q3 A4 B4 C4)] (True) (.tup [ZQ3,.int .i64 1]):=⟨λhp=>s1⟩
 haveI j2:DenI Tryz.prog 8 [(Q3 A2 B2 C2),(Q3 A4 B4 C4)] (True) (.tup [ZQ3,.int .i64 1]):=⟨λhp=>s2⟩
 all_goals (repeat' ((try (conv=>whnf));first
  |refine call_0 ?_
  |refine call_i ?_ ?_
  |refine call_c ?_ (λ_=>?_) (λ_=>?_)
  |(with_reducible refine onB_t ?_)
  |(with_reducible refine onB_f ?_)
  |(with_reducible refine onB_d (λ_=>?_) (λ_=>?_))
  |(with_reducible refine onB_n (λ_=>?_) (λ_=>?_))
  |refine OnB.mk (λ_=>?_) (λ_=>?_)
  |refine obl_i ?_ ?_
  |refine Drw.mk (by kernel_rfl) ?_
  |refine mks_i ?_ ?_
  |refine slp_i ?_ ?_
  |(with_reducible refine elem_u ?_ ?_)
  |(with_reducible refine elem_0 ?_)
  |(with_reducible refine elem_1 ?_)
  |refine Ends.mk ?_))
 all_goals (try refine Pr.mk ?_)
 all_goals first|exact ⟨rfl,⟨rfl,rfl,rfl,rfl,rfl,rfl,trivial⟩,⟨rfl,rfl,rfl,trivial⟩⟩|exact ⟨rfl,⟨rfl,rfl,rfl,rfl,trivial⟩,⟨rfl,rfl,rfl,trivial⟩⟩|exact ⟨rfl,⟨rfl,rfl,rfl,rfl,rfl,rfl,trivial⟩,⟨rfl,rfl,rfl,rfl,rfl,trivial⟩⟩|trivial|rfl|exact hp|omega|(exfalso;omega)|(exfalso;simp at *;done)|(exfalso;simp_all;done)|skip
end Go.Proofs.YtbbfmlhkgceabaaGreat
