/-
  An operation looks at its operands and at what lies behind them, and answers alike wherever these are alike.
  Every operation: it does what the abstract run says, and answers alike wherever its operands are alike.
  One step of the abstract run, and operations one behind the other.
  A region that draws its order: the run in the order of the text stands for every order.
  What is done ahead of an operation in every order; the rule for a region that draws.
  Conditions: none.
-/
import Derived.Test.YtbbfmlhkgceabaaGreatM5
set_option linter.all false
namespace Go.Sw
open Go Go.RowKit
set_option linter.unusedVariables false
section
variable {D:FuncId→List AV→AV→Prop} {τ:Tab}
def LocB(ids:List Nat)(b b':Bxs):Prop:=∀i∈ids,ld i b'=ld i b
theorem argK_loc{b:Bxs}{v:AV}{k:AV→Bxs→Prop}(hk:argK b v k):∃v' f,k v' f∧∀(b':Bxs) (k':AV→Bxs→Prop),LocB (idsA v) b b'→k' v' f→argK b' v k':=by
 unfold argK at hk
 split at hk
 ·exact ⟨_,_,hk,λb' k' _ h=>h⟩
 ·rename_i x hn
  refine ⟨_,_,hk,λb' k' _ h=>?_⟩
  unfold argK
  split<;>first
   |(rename_i heq;cases heq;exact absurd rfl hn)
   |(rename_i heq;cases heq;exact h)
   |(rename_i heq;cases heq;done)
   |simp_all
 ·exact ⟨_,_,hk,λb' k' _ h=>h⟩
 ·rename_i i n
  split at hk
  ·rename_i T s es hb
   refine ⟨_,_,hk.k,λb' k' hB h=>?_⟩
   unfold argK
   simp only [hB i (by simp [idsA]),hb]
   exact ⟨hk.p,h⟩
  ·rename_i s es hb
   refine ⟨_,_,hk.k,λb' k' hB h=>?_⟩
   unfold argK
   simp only [hB i (by simp [idsA]),hb]
   exact ⟨hk.p,h⟩
  ·cases hk
 ·rename_i i o
  simp only [dropK_eq] at hk
  split at hk
  ·rename_i cs hb
   refine ⟨_,_,hk,λb' k' hB h=>?_⟩
   unfold argK
   simp only [hB i (by simp [idsA]),hb,dropK_eq]
   exact h
  ·rename_i cs hb
   refine ⟨_,_,hk,λb' k' hB h=>?_⟩
   unfold argK
   simp only [hB i (by simp [idsA]),hb,dropK_eq]
   exact h
  ·cases hk
 ·exact ⟨_,_,hk,λb' k' _ h=>h⟩
 ·cases hk
theorem ld_ups_congr{α:Type}:∀(f:List (Nat × α)) {b b':List (Nat × α)} {i:Nat},ld i b'=ld i b→ld i (ups f b')=ld i (ups f b)
 |[],b,b',i,h=>h
 |(t,x) :: r,b,b',i,h=>by
  refine ld_ups_congr r ?_
  rw [ld_up,ld_up,h]
theorem argsK_loc:∀{vs:List AV} {b:Bxs} {k:List AV→Bxs→Prop},argsK vs b k→∃vs' f,k vs' f∧∀(b':Bxs) (k':List AV→Bxs→Prop),LocB (vs.flatMap idsA) b b'→k' vs' f→argsK vs b' k'
 |[],b,k,hk=>⟨_,_,hk,λb' k' _ h=>h⟩
 |v :: r,b,k,hk=>by
  obtain ⟨v',f,h1,h2⟩:=argK_loc hk
  obtain ⟨vs',g,h3,h4⟩:=argsK_loc h1
  refine ⟨_,_,h3,λb' k' hB hk'=>h2 b' _ (λi hi=>hB i (by simp [hi])) (h4 _ _ (λi hi=>ld_ups_congr f (hB i (by rw [List.flatMap_cons];exact List.mem_append_right _ hi))) hk')⟩
theorem partsK_loc{e:Env}:∀{ps:List (Nat × Operand)} {b:Bxs} {k:List (Nat × List Cell)→Bxs→Prop},partsK e ps b k→∃vs' f,k vs' f∧∀(e':Env) (b':Bxs) (k':List (Nat × List Cell)→Bxs→Prop),(∀p∈ps,ae e' p.2=ae e p.2)→LocB (ps.flatMap λp=>idsO e p.2) b b'→k' vs' f→partsK e' ps b' k'
 |[],b,k,hk=>⟨_,_,hk,λe' b' k' _ _ h=>h⟩
 |(j,x) :: r,b,k,hk=>by
  simp only [partsK] at hk
  cases hx:ae e x with
  |none=>simp [hx] at hk
  |some v =>
   simp only [hx] at hk
   obtain ⟨v',f,h1,h2⟩:=argK_loc hk
   obtain ⟨vs',g,h3,h4⟩:=partsK_loc h1
   refine ⟨_,_,h3,λe' b' k' hE hB hk'=>?_⟩
   have hx':ae e' x=some v:=(hE (j,x) (by simp)).trans hx
   simp only [partsK,hx']
   refine h2 b' _ (λi hi=>hB i ?_) (h4 e' _ _ (λp hp=>hE p (by simp [hp])) (λi hi=>ld_ups_congr f (hB i ?_)) hk')
   ·rw [List.flatMap_cons];exact List.mem_append_left _ (by simp only [idsO,hx];exact hi)
   ·rw [List.flatMap_cons];exact List.mem_append_right _ hi
theorem partO_loc{v:AV}{b:Bxs}{k:List Cell→Prop}(hk:partO b v k):∃cs,k cs∧∀(b':Bxs) (k':List Cell→Prop),LocB (idsA v) b b'→k' cs→partO b' v k':=by
 unfold partO at hk
 split at hk
 ·exact ⟨_,hk,λb' k' _ h=>by unfold partO;exact h⟩
 ·rename_i c hne
  refine ⟨_,hk,λb' k' _ h=>?_⟩
  unfold partO
  split
  ·rename_i heq
   cases heq
   exact (hne rfl).elim
  ·rename_i heq;cases heq;exact h
  ·rename_i heq;cases heq
  ·rename_i heq;cases heq
  ·exfalso;simp_all
 ·exact ⟨_,hk,λb' k' _ h=>by unfold partO;exact h⟩
 ·rename_i c n
  split at hk
  ·rename_i m hm
   refine ⟨_,hk.k,λb' k' hB h=>?_⟩
   have:gsLen c b'=some m:=by
    have hb:=hB c (by simp [idsA])
    unfold gsLen at hm ⊢
    rw [hb];exact hm
   unfold partO
   simp only [this]
   exact ⟨hk.p,h⟩
  ·cases hk
 ·cases hk
theorem partsO_loc{e:Env}:∀{ps:List (Nat × Operand)} {b:Bxs} {k:List (Nat × List Cell)→Prop},partsO e b ps k→∃vs',k vs'∧∀(e':Env) (b':Bxs) (k':List (Nat × List Cell)→Prop),(∀p∈ps,ae e' p.2=ae e p.2)→LocB (ps.flatMap λp=>idsO e p.2) b b'→k' vs'→partsO e' b' ps k'
 |[],b,k,hk=>⟨_,hk,λe' b' k' _ _ h=>h⟩
 |(j,x) :: r,b,k,hk=>by
  simp only [partsO] at hk
  cases hx:ae e x with
  |none=>simp [hx] at hk
  |some v =>
   simp only [hx] at hk
   obtain ⟨cs,h1,h2⟩:=partO_loc hk
   obtain ⟨vs',h3,h4⟩:=partsO_loc h1
   refine ⟨_,h3,λe' b' k' hE hB hk'=>?_⟩
   have hx':ae e' x=some v:=(hE (j,x) (by simp)).trans hx
   simp only [partsO,hx']
   refine h2 b' _ (λi hi=>hB i ?_) (h4 e' b' _ (λp hp=>hE p (by simp [hp])) (λi hi=>hB i ?_) hk')
   ·rw [List.flatMap_cons];exact List.mem_append_left _ (by simp only [idsO,hx];exact hi)
   ·rw [List.flatMap_cons];exact List.mem_append_right _ hi
theorem mapO_ids{e:Env}:∀{l:List Operand} {vs:List AV},mapO (λx=>ae e x) l=some vs→vs.flatMap idsA=l.flatMap (idsO e)
 |[],vs,h=>by simp [mapO] at h;subst h;rfl
 |x :: l,vs,h=>by
  simp only [mapO] at h
  cases hx:ae e x with
  |none=>simp [hx] at h
  |some y =>
   cases hq:mapO (λx=>ae e x) l with
   |none=>simp [hx,hq] at h
   |some q =>
    simp [hx,hq] at h
    subst h
    rw [List.flatMap_cons,List.flatMap_cons,mapO_ids hq]
    simp only [idsO,hx]
theorem mapO_congr{α β:Type}{f g:α→Option β}:∀{l:List α},(∀x∈l,f x=g x)→mapO f l=mapO g l
 |[],_=>rfl
 |x :: r,h=>by simp only [mapO,h x (by simp),mapO_congr (l:=r) (λy hy=>h y (by simp [hy]))]
structure Alike (o:Oper) (e:Env) (b:Bxs) (e':Env) (b':Bxs):Prop where
 op:∀x∈o.op.operands.toList,ae e' x=ae e x
 bx:LocB (rdO o e b) b b'
def Locl(D:FuncId→List AV→AV→Prop)(τ:Tab)(o:Oper)(e:Env)(b:Bxs)(k:AV→Bxs→Prop):Prop:=∃v f,k v f∧∀(e':Env) (b':Bxs) (k':AV→Bxs→Prop),Alike o e b e' b'→k' v f→aop D τ o e' b' k'
variable {d:Option Nat} {ty:TypeId} {pos:String} {af:Array Edge} {gd:Option (Nat × Bool)} {k:AV→Bxs→Prop} {e:Env} {b:Bxs}
theorem loc_move{x:Operand}(hk:aop D τ ⟨d,.move x,ty,pos,af,gd⟩ e b k):Locl D τ ⟨d,.move x,ty,pos,af,gd⟩ e b k:=by
 unfold aop at hk
 cases hx:ae e x with
 |none=>simp [hx] at hk
 |some v =>
  simp only [hx] at hk
  refine ⟨_,_,hk,λe' b' k' hA h=>?_⟩
  unfold aop
  simp only [hA.op x (by simp [Op.operands]),hx]
  exact h
theorem loc_assign{x:Operand}(hk:aop D τ ⟨d,.assign x,ty,pos,af,gd⟩ e b k):Locl D τ ⟨d,.assign x,ty,pos,af,gd⟩ e b k:=by
 unfold aop at hk
 simp only at hk
 split at hk
 ·rename_i i T s hn
  refine ⟨_,_,hk,λe' b' k' hA h=>?_⟩
  unfold aop
  simp only [hn]
  exact h
 rename_i hn
 cases hx:ae e x with
 |none=>simp [hx] at hk
 |some v =>
  simp only [hx] at hk
  refine ⟨_,_,hk,λe' b' k' hA h=>?_⟩
  unfold aop
  simp only [hn,hA.op x (by simp [Op.operands]),hx]
  exact h
theorem loc_pick{x y z:Operand}(hk:aop D τ ⟨d,.pick x y z,ty,pos,af,gd⟩ e b k):Locl D τ ⟨d,.pick x y z,ty,pos,af,gd⟩ e b k:=by
 unfold aop at hk
 simp only at hk
 split at hk
 ·rename_i p hx
  have hb:(match ae e (cond p y z) with|some v=>k v []|none=>False):=by cases p<;>first|exact hk.t rfl|exact hk.f rfl
  cases hq:ae e (cond p y z) with
  |none=>simp [hq] at hb
  |some v =>
   simp only [hq] at hb
   refine ⟨_,_,hb,λe' b' k' hA h=>?_⟩
   unfold aop
   simp only [hA.op x (by simp [Op.operands]),hx]
   refine ⟨λh1=>?_,λh1=>?_⟩<;>subst h1
   ·have:ae e' y=ae e y:=hA.op y (by simp [Op.operands])
    simp only [cond_true] at hq ⊢
    rw [this,hq];exact h
   ·have:ae e' z=ae e z:=hA.op z (by simp [Op.operands])
    simp only [cond_false] at hq ⊢
    rw [this,hq];exact h
 ·cases hk
theorem loc_alloc{t:TypeId}(hk:aop D τ ⟨d,.alloc t,ty,pos,af,gd⟩ e b k):Locl D τ ⟨d,.alloc t,ty,pos,af,gd⟩ e b k:=by
 unfold aop at hk
 simp only at hk
 split at hk
 ·rename_i ti i h1
  split at hk
  ·rename_i hty
   refine ⟨_,_,hk,λe' b' k' hA h=>?_⟩
   unfold aop
   simp only [h1,hty]
   exact h
  ·cases hk
 ·cases hk
theorem loc_box{t:TypeId}{x:Operand}(hk:aop D τ ⟨d,.box t x,ty,pos,af,gd⟩ e b k):Locl D τ ⟨d,.box t x,ty,pos,af,gd⟩ e b k:=by
 unfold aop at hk
 simp only at hk
 split at hk
 ·rename_i i v hx
  obtain ⟨v',f,h1,h2⟩:=argK_loc hk
  split at h1
  ·rename_i hf
   refine ⟨_,_,h1,λe' b' k' hA h=>?_⟩
   unfold aop
   simp only [hA.op x (by simp [Op.operands]),hx]
   refine h2 b' _ (λi hi=>hA.bx i (by simp [rdO,passes,obsO,mnO,Op.operands,idsO,hx,hi])) ?_
   simp only [hf];exact h
  ·cases h1
 ·cases hk
theorem loc_elem{b:Bxs}{es:List (List Cell)}{n:Nat}{j:Int}{ti:TI}{off:Nat}(hk:Obl (n=es.length) (Elem es j λcs=>(match rdAs ti (dropN off cs) with|some v=>k v []|none=>False))):
 ∃v,k v []∧∀(k':AV→Bxs→Prop),k' v []→Obl (n=es.length) (Elem es j λcs=>(match rdAs ti (dropN off cs) with|some v=>k' v []|none=>False)):=by
 obtain ⟨hl,⟨j',cs,hj,he,hkk⟩⟩:=hk
 cases hr:rdAs ti (dropN off cs) with
 |none=>simp [hr] at hkk
 |some v =>
  simp only [hr] at hkk
  exact ⟨v,hkk,λk' h=>⟨hl,⟨j',cs,hj,he,by simp only [hr];exact h⟩⟩⟩
theorem obK_loc:∀{cs:List Cell} {b:Bxs} {k:List Cell→Bxs→Prop},obK cs b k→∃cs' f,k cs' f∧∀(b':Bxs) (k':List Cell→Bxs→Prop),LocB (obsC cs) b b'→k' cs' f→obK cs b' k'
 |[],b,k,hk=>⟨_,_,hk,λb' k' _ h=>h⟩
 |.ob i n :: r,b,k,hk=>by
  simp only [obK] at hk
  obtain ⟨v',f,h1,h2⟩:=argK_loc hk
  cases v' with
  |c c' =>
   simp only at h1
   obtain ⟨cs',g,h3,h4⟩:=obK_loc h1
   refine ⟨_,_,h3,λb' k' hB hk'=>?_⟩
   simp only [obK]
   exact h2 b' _ (λj hj=>hB j (by simp [idsA] at hj;subst hj;simp [obsC])) (h4 _ _ (λj hj=>ld_ups_congr f (hB j (by simp [obsC,hj]))) hk')
  |_=>exact False.elim h1
 |.v u :: r,b,k,hk=>by
  simp only [obK] at hk
  obtain ⟨cs',g,h3,h4⟩:=obK_loc hk
  exact ⟨_,_,h3,λb' k' hB hk'=>by simp only [obK];exact h4 _ _ (λj hj=>hB j (by simpa only [obsC] using hj)) hk'⟩
 |.sl s es :: r,b,k,hk=>by
  simp only [obK] at hk
  obtain ⟨cs',g,h3,h4⟩:=obK_loc hk
  exact ⟨_,_,h3,λb' k' hB hk'=>by simp only [obK];exact h4 _ _ (λj hj=>hB j (by simpa only [obsC] using hj)) hk'⟩
 |.p ps :: r,b,k,hk=>by
  simp only [obK] at hk
  obtain ⟨cs',g,h3,h4⟩:=obK_loc hk
  exact ⟨_,_,h3,λb' k' hB hk'=>by simp only [obK];exact h4 _ _ (λj hj=>hB j (by simpa only [obsC] using hj)) hk'⟩
 |.fn ff ps :: r,b,k,hk=>by
  simp only [obK] at hk
  obtain ⟨cs',g,h3,h4⟩:=obK_loc hk
  exact ⟨_,_,h3,λb' k' hB hk'=>by simp only [obK];exact h4 _ _ (λj hj=>hB j (by simpa only [obsC] using hj)) hk'⟩
theorem obsC_take:∀{n:Nat} {cs l:List Cell},takeN n cs=some l→∀i∈obsC l,i∈obsC cs
 |0,cs,l,h,i,hi=>by simp [takeN] at h;subst h;simp [obsC] at hi
 |n+1,[],l,h,i,hi=>by simp [takeN] at h
 |n+1,c :: cs,l,h,i,hi=>by
  simp only [takeN] at h
  cases hq:takeN n cs with
  |none=>simp [hq] at h
  |some q =>
   simp [hq] at h
   subst h
   have ih:=obsC_take hq
   cases c<;>simp only [obsC,List.mem_cons] at hi ⊢<;>first|exact ih i hi|(rcases hi with hi|hi;exact .inl hi;exact .inr (ih i hi))
theorem obsC_drop:∀{n:Nat} {cs:List Cell},∀i∈obsC (dropN n cs),i∈obsC cs
 |0,cs,i,hi=>by simpa [dropN] using hi
 |n+1,[],i,hi=>by simp [dropN,obsC] at hi
 |n+1,c :: cs,i,hi=>by
  have:=obsC_drop (n:=n) (cs:=cs) i hi
  cases c<;>simp only [obsC,List.mem_cons]<;>first|exact this|exact .inr this
theorem loadO_loc{ti:TI}{cs:List Cell}{b:Bxs}{k:AV→Bxs→Prop}(hk:loadO ti cs b k):∃v f,k v f∧∀(b':Bxs) (k':AV→Bxs→Prop),LocB (obsC cs) b b'→k' v f→loadO ti cs b' k':=by
 unfold loadO at hk
 split at hk
 ·rename_i n hn
  split at hk
  ·rename_i l hl
   obtain ⟨cs',f,h1,h2⟩:=obK_loc hk
   refine ⟨_,_,h1,λb' k' hB h=>?_⟩
   unfold loadO
   simp only [hn,hl]
   exact h2 b' _ (λi hi=>hB i (obsC_take hl i hi)) h
  ·cases hk
 ·rename_i hn
  cases ti<;>(try simp only at hk)<;>first|(cases hk;done)|(simp [rowN] at hn;done)|skip
  all_goals (cases cs with
   |nil=>cases hk
   |cons c r=>exact ⟨_,_,hk,λb' k' hB h=>h⟩)
theorem loc_load{t:TypeId}{x:Operand}(hk:aop D τ ⟨d,.load t x,ty,pos,af,gd⟩ e b k):Locl D τ ⟨d,.load t x,ty,pos,af,gd⟩ e b k:=by
 unfold aop at hk
 simp only at hk
 split at hk
 ·rename_i ti i off ht hx
  split at hk
  ·rename_i cs hb
   cases hr:rdAs ti (dropN off cs) with
   |none=>simp [hr] at hk
   |some v =>
    simp only [hr] at hk
    refine ⟨_,_,hk,λe' b' k' hA h=>?_⟩
    have hb':=hA.bx i (by simp [rdO,passes,obsO,mnO,Op.operands,idsO,hx,idsA])
    unfold aop
    simp only [ht,hA.op x (by simp [Op.operands]),hx,hb',hb,hr]
    exact h
  ·rename_i cs hb
   cases hr:rdAs ti (dropN off cs) with
   |none=>simp [hr] at hk
   |some v =>
    simp only [hr] at hk
    refine ⟨_,_,hk,λe' b' k' hA h=>?_⟩
    have hb':=hA.bx i (by simp [rdO,passes,obsO,mnO,Op.operands,idsO,hx,idsA])
    unfold aop
    simp only [ht,hA.op x (by simp [Op.operands]),hx,hb',hb,hr]
    exact h
  ·rename_i cs hb
   obtain ⟨v,f,h1,h2⟩:=loadO_loc hk
   refine ⟨_,_,h1,λe' b' k' hA h=>?_⟩
   have hb':=hA.bx i (by simp [rdO,passes,obsO,mnO,Op.operands,idsO,hx,idsA])
   unfold aop
   simp only [ht,hA.op x (by simp [Op.operands]),hx,hb',hb]
   refine h2 b' k' (λj hj=>hA.bx j ?_) h
   simp only [rdO,passes,cond_false,obsO]
   exact List.mem_append_right _ (List.mem_flatMap.2 ⟨i,by simp [mnO,Op.operands,idsO,hx,idsA],by simp only [obsAt,hb];exact obsC_drop j hj⟩)
  ·cases hk
 ·rename_i ti cs ht hx
  cases hr:rdAs ti cs with
  |none=>simp [hr] at hk
  |some v =>
   simp only [hr] at hk
   refine ⟨_,_,hk,λe' b' k' hA h=>?_⟩
   unfold aop
   simp only [ht,hA.op x (by simp [Op.operands]),hx,hr]
   exact h
 ·rename_i ti cs ht hx
  cases hr:rdAs ti cs with
  |none=>simp [hr] at hk
  |some v =>
   simp only [hr] at hk
   refine ⟨_,_,hk,λe' b' k' hA h=>?_⟩
   unfold aop
   simp only [ht,hA.op x (by simp [Op.operands]),hx,hr]
   exact h
 ·rename_i ti g off ht hx
  split at hk
  ·rename_i kk cs hg
   cases hr:rdAs ti (dropN off cs) with
   |none=>simp [hr] at hk
   |some v =>
    simp only [hr] at hk
    refine ⟨_,_,hk,λe' b' k' hA h=>?_⟩
    unfold aop
    simp only [ht,hA.op x (by simp [Op.operands]),hx,hg,hr]
    exact h
  ·cases hk
 ·rename_i ti i n j off ht hx
  split at hk
  ·rename_i T s es hb
   obtain ⟨v,h1,h2⟩:=loc_elem (b:=b) hk
   refine ⟨_,_,h1,λe' b' k' hA h=>?_⟩
   have hb':=hA.bx i (by simp [rdO,passes,obsO,mnO,Op.operands,idsO,hx,idsA])
   unfold aop
   simp only [ht,hA.op x (by simp [Op.operands]),hx,hb',hb]
   exact h2 k' h
  ·rename_i s es hb
   obtain ⟨v,h1,h2⟩:=loc_elem (b:=b) hk
   refine ⟨_,_,h1,λe' b' k' hA h=>?_⟩
   have hb':=hA.bx i (by simp [rdO,passes,obsO,mnO,Op.operands,idsO,hx,idsA])
   unfold aop
   simp only [ht,hA.op x (by simp [Op.operands]),hx,hb',hb]
   exact h2 k' h
  ·cases hk
 ·cases hk
theorem loc_store{t:TypeId}{x y:Operand}(hk:aop D τ ⟨d,.store t x y,ty,pos,af,gd⟩ e b k):Locl D τ ⟨d,.store t x y,ty,pos,af,gd⟩ e b k:=by
 unfold aop at hk
 simp only at hk
 split at hk
 ·rename_i ds hag
  split at hk
  ·rename_i ti i off ht hx
   split at hk
   ·rename_i cs hb
    split at hk
    ·rename_i cs' hsz hp
     refine ⟨_,_,hk,λe' b' k' hA h=>?_⟩
     have hb':=hA.bx i (by simp [rdO,passes,obsO,mnO,Op.operands,idsO,hx,idsA])
     unfold aop
     simp only [hA.op x (by simp [Op.operands]),hA.op y (by simp [Op.operands]),hag,ht,hx,hb',hb,hsz,hp]
     exact h
    ·cases hk
   ·cases hk
  ·cases hk
 rename_i hag
 split at hk
 ·rename_i ti i off v ht hx hy
  have old:∀{cs:List Cell} (vo:Bool),(argK b v λv' f=>(match f.any (λp=>Nat.beq p.1 i),szB ti (cellsOf v').length,putN off (cellsOf v') cs with|false,true,some cs'=>k .any (f++[(i,cond vo (.varo cs') (.var cs'))])|_,_,_=>False)) →
   ∃f,k .any f∧∀(b':Bxs) (k':AV→Bxs→Prop),LocB (idsA v) b b'→k' .any f→(argK b' v λv' f=>(match f.any (λp=>Nat.beq p.1 i),szB ti (cellsOf v').length,putN off (cellsOf v') cs with|false,true,some cs'=>k' .any (f++[(i,cond vo (.varo cs') (.var cs'))])|_,_,_=>False)):=by
   intro cs vo hk
   obtain ⟨v',f,h1,h2⟩:=argK_loc hk
   split at h1
   ·rename_i cs' hf hsz hp
    refine ⟨_,h1,λb' k' hB h=>h2 b' _ hB ?_⟩
    simp only [hf,hsz,hp]
    exact h
   ·exact False.elim h1
  have hlen:∀{e':Env} {b':Bxs} {c n:Nat},Alike ⟨d,.store t x y,ty,pos,af,gd⟩ e b e' b'→gsOf v=some (c,n)→gsLen c b'=gsLen c b:=by
   intro e' b' c n hA hg
   have hv:v=.gs c n:=by
    unfold gsOf at hg
    split at hg
    ·cases hg;rfl
    ·cases hg
   unfold gsLen
   rw [hA.bx c (by subst hv;simp [rdO,passes,obsO,mnO,Op.operands,idsO,hy,idsA])]
  split at hk
  ·rename_i cs hb
   split at hk
   ·rename_i c n ho hsl hgs
    split at hk
    ·rename_i ml cs' hl hp
     refine ⟨_,_,hk.k,λe' b' k' hA h=>?_⟩
     have hb':=hA.bx i (by simp [rdO,passes,obsO,mnO,Op.operands,idsO,hx,idsA])
     unfold aop
     have hagv:agoOf (some v)=none:=by rw [← hy];exact hag
     simp only [hagv,ht,hA.op x (by simp [Op.operands]),hA.op y (by simp [Op.operands]),hx,hy,hb',hb,ho,hsl,hgs,hlen hA hgs,hl,hp]
     exact ⟨hk.p,h⟩
    ·cases hk
   ·rename_i hno
    obtain ⟨f,h1,h2⟩:=old (cs:=cs) false hk
    refine ⟨_,_,h1,λe' b' k' hA h=>?_⟩
    have hb':=hA.bx i (by simp [rdO,passes,obsO,mnO,Op.operands,idsO,hx,idsA])
    have h3:=h2 b' k' (λc hc=>hA.bx c (by simp [rdO,passes,obsO,mnO,Op.operands,idsO,hy,hc])) h
    unfold aop
    have hagv:agoOf (some v)=none:=by rw [← hy];exact hag
    simp only [hagv,ht,hA.op x (by simp [Op.operands]),hA.op y (by simp [Op.operands]),hx,hy,hb',hb]
    first
     |exact h3
     |(split
       ·rename_i c n ho hsl hgs
        exact absurd hgs (hno c n ho hsl)
       ·exact h3)
  ·rename_i cs hb
   split at hk
   ·rename_i c n hsl hgs
    split at hk
    ·rename_i ml cs' hl hp
     refine ⟨_,_,hk.k,λe' b' k' hA h=>?_⟩
     have hb':=hA.bx i (by simp [rdO,passes,obsO,mnO,Op.operands,idsO,hx,idsA])
     unfold aop
     have hagv:agoOf (some v)=none:=by rw [← hy];exact hag
     simp only [hagv,ht,hA.op x (by simp [Op.operands]),hA.op y (by simp [Op.operands]),hx,hy,hb',hb,hsl,hgs,hlen hA hgs,hl,hp]
     exact ⟨hk.p,h⟩
    ·cases hk
   ·rename_i hno
    obtain ⟨f,h1,h2⟩:=old (cs:=cs) true hk
    refine ⟨_,_,h1,λe' b' k' hA h=>?_⟩
    have hb':=hA.bx i (by simp [rdO,passes,obsO,mnO,Op.operands,idsO,hx,idsA])
    have h3:=h2 b' k' (λc hc=>hA.bx c (by simp [rdO,passes,obsO,mnO,Op.operands,idsO,hy,hc])) h
    unfold aop
    have hagv:agoOf (some v)=none:=by rw [← hy];exact hag
    simp only [hagv,ht,hA.op x (by simp [Op.operands]),hA.op y (by simp [Op.operands]),hx,hy,hb',hb]
    first
     |exact h3
     |(split
       ·rename_i c n hsl hgs
        exact absurd hgs (hno c n hsl)
       ·exact h3)
  ·cases hk
 ·rename_i ti i n j off v ht hx hy
  split at hk
  ·rename_i T s es hb
   obtain ⟨v',f,h1,h2⟩:=argK_loc hk
   split at h1
   ·obtain ⟨hl,⟨j',cs,hj,he,hkk⟩⟩:=h1
    split at hkk
    ·rename_i cs' hsz hp
     refine ⟨_,_,hkk,λe' b' k' hA h=>?_⟩
     have hb':=hA.bx i (by simp [rdO,passes,obsO,mnO,Op.operands,idsO,hx,idsA])
     unfold aop
     have hagv:agoOf (some v)=none:=by rw [← hy];exact hag
     simp only [hagv,ht,hA.op x (by simp [Op.operands]),hA.op y (by simp [Op.operands]),hx,hy,hb',hb]
     refine h2 b' _ (λc hc=>hA.bx c (by simp [rdO,passes,obsO,mnO,Op.operands,idsO,hy,hc])) ?_
     refine ⟨hl,⟨j',cs,hj,he, ?_⟩⟩
     simp only [hsz,hp]
     exact h
    ·exact False.elim hkk
   ·exact False.elim h1
  ·cases hk
 ·cases hk
theorem loc_fieldAddr{t:TypeId}{x:Operand}{i:Nat}(hk:aop D τ ⟨d,.fieldAddr t x i,ty,pos,af,gd⟩ e b k):Locl D τ ⟨d,.fieldAddr t x i,ty,pos,af,gd⟩ e b k:=by
 unfold aop at hk
 simp only at hk
 split at hk
 ·rename_i n fs z ht
  split at hk
  ·rename_i off s1 s2 j o' hi hx
   refine ⟨_,_,hk,λe' b' k' hA h=>?_⟩
   unfold aop
   simp only [ht,hA.op x (by simp [Op.operands]),hx,hi]
   exact h
  ·rename_i off s1 s2 c n' j o' hi hx
   split at hk
   ·rename_i T s es hb
    refine ⟨_,_,hk.k,λe' b' k' hA h=>?_⟩
    have hb':=hA.bx c (by simp [rdO,passes,Op.operands,hx,idsP])
    unfold aop
    simp only [ht,hA.op x (by simp [Op.operands]),hx,hi,hb',hb]
    exact ⟨hk.p,h⟩
   ·rename_i s es hb
    refine ⟨_,_,hk.k,λe' b' k' hA h=>?_⟩
    have hb':=hA.bx c (by simp [rdO,passes,Op.operands,hx,idsP])
    unfold aop
    simp only [ht,hA.op x (by simp [Op.operands]),hx,hi,hb',hb]
    exact ⟨hk.p,h⟩
   ·cases hk
  ·rename_i off s1 s2 cs hi hx
   refine ⟨_,_,hk,λe' b' k' hA h=>?_⟩
   unfold aop
   simp only [ht,hA.op x (by simp [Op.operands]),hx,hi]
   exact h
  ·rename_i off s1 s2 cs hi hx
   refine ⟨_,_,hk,λe' b' k' hA h=>?_⟩
   unfold aop
   simp only [ht,hA.op x (by simp [Op.operands]),hx,hi]
   exact h
  ·rename_i off s1 s2 g o' hi hx
   refine ⟨_,_,hk,λe' b' k' hA h=>?_⟩
   unfold aop
   simp only [ht,hA.op x (by simp [Op.operands]),hx,hi]
   exact h
  ·cases hk
 ·cases hk
theorem loc_field{t:TypeId}{x:Operand}{i:Nat}(hk:aop D τ ⟨d,.field t x i,ty,pos,af,gd⟩ e b k):Locl D τ ⟨d,.field t x i,ty,pos,af,gd⟩ e b k:=by
 unfold aop at hk
 simp only at hk
 split at hk
 ·rename_i n fs z ht
  split at hk
  ·rename_i off s ag cs hi hx
   cases hr:takeN s (dropN off cs) with
   |none=>simp [hr] at hk
   |some l =>
    simp only [hr] at hk
    cases ag with
    |true =>
     refine ⟨_,_,hk,λe' b' k' hA h=>?_⟩
     unfold aop
     simp only [ht,hA.op x (by simp [Op.operands]),hx,hi,hr]
     exact h
    |false =>
     cases l with
     |nil=>cases hk
     |cons c r =>
      refine ⟨_,_,hk,λe' b' k' hA h=>?_⟩
      unfold aop
      simp only [ht,hA.op x (by simp [Op.operands]),hx,hi,hr]
      exact h
  ·cases hk
 ·cases hk
theorem loc_indexAddr{t:TypeId}{x y:Operand}(hk:aop D τ ⟨d,.indexAddr t x y,ty,pos,af,gd⟩ e b k):Locl D τ ⟨d,.indexAddr t x y,ty,pos,af,gd⟩ e b k:=by
 unfold aop at hk
 simp only at hk
 split at hk
 ·rename_i e1 s by_ z s' es ki i ht hx hy
  split at hk
  ·rename_i hs
   obtain ⟨j,cs,h1,h2,hkk⟩:=hk
   refine ⟨_,_,hkk,λe' b' k' hA h=>?_⟩
   unfold aop
   simp only [ht,hA.op x (by simp [Op.operands]),hA.op y (by simp [Op.operands]),hx,hy,hs]
   exact ⟨j,cs,h1,h2,h⟩
  ·cases hk
 ·rename_i e1 s by_ z c n ki i ht hx hy
  split at hk
  ·rename_i T s' es hb
   split at hk
   ·rename_i hs
    obtain ⟨hl,⟨j,cs,h1,h2,hkk⟩⟩:=hk
    refine ⟨_,_,hkk,λe' b' k' hA h=>?_⟩
    have hb':=hA.bx c (by simp [rdO,passes,obsO,mnO,Op.operands,idsO,hx,idsA])
    unfold aop
    simp only [ht,hA.op x (by simp [Op.operands]),hA.op y (by simp [Op.operands]),hx,hy,hb',hb,hs]
    exact ⟨hl,⟨j,cs,h1,h2,h⟩⟩
   ·cases hk
  ·rename_i s' es hb
   split at hk
   ·rename_i hs
    obtain ⟨hl,⟨j,cs,h1,h2,hkk⟩⟩:=hk
    refine ⟨_,_,hkk,λe' b' k' hA h=>?_⟩
    have hb':=hA.bx c (by simp [rdO,passes,obsO,mnO,Op.operands,idsO,hx,idsA])
    unfold aop
    simp only [ht,hA.op x (by simp [Op.operands]),hA.op y (by simp [Op.operands]),hx,hy,hb',hb,hs]
    exact ⟨hl,⟨j,cs,h1,h2,h⟩⟩
   ·cases hk
  ·cases hk
 ·rename_i n s one z c o' ki i ht hx hy
  split at hk
  ·rename_i hs
   refine ⟨_,_,hk,λe' b' k' hA h=>?_⟩
   unfold aop
   simp only [ht,hA.op x (by simp [Op.operands]),hA.op y (by simp [Op.operands]),hx,hy,hs]
   exact h
  ·cases hk
 ·rename_i n s one z g o' ki i ht hx hy
  split at hk
  ·rename_i hs
   refine ⟨_,_,hk,λe' b' k' hA h=>?_⟩
   unfold aop
   simp only [ht,hA.op x (by simp [Op.operands]),hA.op y (by simp [Op.operands]),hx,hy,hs]
   exact h
  ·cases hk
 ·rename_i n s one z cs ki i ht hx hy
  split at hk
  ·rename_i hs
   refine ⟨_,_,hk,λe' b' k' hA h=>?_⟩
   unfold aop
   simp only [ht,hA.op x (by simp [Op.operands]),hA.op y (by simp [Op.operands]),hx,hy,hs]
   exact h
  ·cases hk
 ·rename_i n s one z cs ki i ht hx hy
  split at hk
  ·rename_i hs
   refine ⟨_,_,hk,λe' b' k' hA h=>?_⟩
   unfold aop
   simp only [ht,hA.op x (by simp [Op.operands]),hA.op y (by simp [Op.operands]),hx,hy,hs]
   exact h
  ·cases hk
 ·rename_i n s one z c m j o' ki i ht hx hy
  split at hk
  ·rename_i T s' es hs hb
   refine ⟨_,_,hk.k,λe' b' k' hA h=>?_⟩
   have hb':=hA.bx c (by simp [rdO,passes,obsO,mnO,Op.operands,idsO,hx,idsA])
   unfold aop
   simp only [ht,hA.op x (by simp [Op.operands]),hA.op y (by simp [Op.operands]),hx,hy,hs,hb',hb]
   exact ⟨hk.p,h⟩
  ·rename_i s' es hs hb
   refine ⟨_,_,hk.k,λe' b' k' hA h=>?_⟩
   have hb':=hA.bx c (by simp [rdO,passes,obsO,mnO,Op.operands,idsO,hx,idsA])
   unfold aop
   simp only [ht,hA.op x (by simp [Op.operands]),hA.op y (by simp [Op.operands]),hx,hy,hs,hb',hb]
   exact ⟨hk.p,h⟩
  ·cases hk
 ·cases hk
theorem loc_extract{x:Operand}{i:Nat}(hk:aop D τ ⟨d,.extract x i,ty,pos,af,gd⟩ e b k):Locl D τ ⟨d,.extract x i,ty,pos,af,gd⟩ e b k:=by
 unfold aop at hk
 simp only at hk
 split at hk
 ·rename_i vs hx
  cases hi:vs[i]? with
  |none=>simp [hi] at hk
  |some v =>
   simp only [hi] at hk
   refine ⟨_,_,hk,λe' b' k' hA h=>?_⟩
   unfold aop
   simp only [hA.op x (by simp [Op.operands]),hx,hi]
   exact h
 ·cases hk
theorem loc_not{t:TypeId}{x:Operand}(hk:aop D τ ⟨d,.unOp .not t x,ty,pos,af,gd⟩ e b k):Locl D τ ⟨d,.unOp .not t x,ty,pos,af,gd⟩ e b k:=by
 unfold aop at hk
 simp only at hk
 split at hk
 ·rename_i p hx
  refine ⟨_,_,hk,λe' b' k' hA h=>?_⟩
  unfold aop
  simp only [hA.op x (by simp [Op.operands]),hx]
  exact h
 ·cases hk
theorem loc_nilCheck{x:Operand}(hk:aop D τ ⟨d,.nilCheck x,ty,pos,af,gd⟩ e b k):Locl D τ ⟨d,.nilCheck x,ty,pos,af,gd⟩ e b k:=by
 unfold aop at hk
 simp only at hk
 split at hk
 all_goals first
  |(rename_i hx
    refine ⟨_,_,hk,λe' b' k' hA h=>?_⟩
    unfold aop
    simp only [hA.op x (by simp [Op.operands]),hx]
    exact h)
  |cases hk
theorem loc_makeFunc{fn:Fn}{first captured:Array Operand}(hk:aop D τ ⟨d,.makeFunc fn first captured,ty,pos,af,gd⟩ e b k):Locl D τ ⟨d,.makeFunc fn first captured,ty,pos,af,gd⟩ e b k:=by
 unfold aop at hk
 simp only at hk
 split at hk
 ·rename_i g vs hf hv
  obtain ⟨a_s,f,h1,h2⟩:=argsK_loc hk
  split at h1
  ·rename_i cs hcs
   refine ⟨_,_,h1,λe' b' k' hA h=>?_⟩
   have hv':mapO (λx=>ae e' x) captured.toList=some vs:=by
    rw [← hv]
    exact mapO_congr λx hx=>hA.op x (by simp only [Op.operands,Array.toList_append];exact List.mem_append_right _ hx)
   unfold aop
   simp only [hf,hv']
   refine h2 b' _ (λi hi=>hA.bx i ?_) (by simp only [hcs];exact h)
   simp only [rdO,passes,cond_false,obsO,List.append_nil,mnO,Op.operands,Array.toList_append]
   rw [List.flatMap_append,← mapO_ids hv]
   exact List.mem_append_right _ hi
  ·cases h1
 ·cases hk
theorem loc_neg{t:TypeId}{x:Operand}(hk:aop D τ ⟨d,.unOp .neg t x,ty,pos,af,gd⟩ e b k):Locl D τ ⟨d,.unOp .neg t x,ty,pos,af,gd⟩ e b k:=by
 unfold aop at hk
 simp only at hk
 split at hk
 ·rename_i p q hx
  refine ⟨_,_,hk,λe' b' k' hA h=>?_⟩
  unfold aop
  simp only [hA.op x (by simp [Op.operands]),hx]
  exact h
 ·cases hk
theorem loc_conv{src dst:TypeId}{x:Operand}(hk:aop D τ ⟨d,.convert src dst x,ty,pos,af,gd⟩ e b k):Locl D τ ⟨d,.convert src dst x,ty,pos,af,gd⟩ e b k:=by
 unfold aop at hk
 simp only at hk
 split at hk
 ·rename_i k0 ki k1 n h1 h2 hx
  refine ⟨_,_,hk,λe' b' k' hA h=>?_⟩
  unfold aop
  simp only [h1,h2,hA.op x (by simp [Op.operands]),hx]
  exact h
 ·rename_i T s by_ z b0 h1 h2 hx
  split at hk
  ·rename_i h3 h4
   refine ⟨_,_,hk.k,λe' b' k' hA h=>?_⟩
   unfold aop
   simp only [h1,h2,hA.op x (by simp [Op.operands]),hx,h3,h4]
   exact ⟨hk.p,h⟩
  ·cases hk
 ·rename_i k0 k1 n h1 h2 hx
  refine ⟨_,_,hk,λe' b' k' hA h=>?_⟩
  unfold aop
  simp only [h1,h2,hA.op x (by simp [Op.operands]),hx]
  exact h
 ·cases hk
theorem loc_index{t:TypeId}{x y:Operand}(hk:aop D τ ⟨d,.index t x y,ty,pos,af,gd⟩ e b k):Locl D τ ⟨d,.index t x y,ty,pos,af,gd⟩ e b k:=by
 unfold aop at hk
 simp only at hk
 split at hk
 ·rename_i s ki i h1 hx hy
  obtain ⟨j,hi,hj,hk⟩:=hk
  refine ⟨_,_,hk,λe' b' k' hA h=>?_⟩
  unfold aop
  simp only [h1,hA.op x (by simp [Op.operands]),hA.op y (by simp [Op.operands]),hx,hy]
  exact ⟨j,hi,hj,h⟩
 ·cases hk
theorem binA_loc{op:BinOp}{x y:AV}{k:AV→Prop}(hk:binA op x y k):∃v,k v∧∀k':AV→Prop,k' v→binA op x y k':=by
 unfold binA at hk
 split at hk<;>first
  |exact False.elim hk
  |exact ⟨_,hk.k,λk' h=>by unfold binA;exact ⟨hk.p,h⟩⟩
  |exact ⟨_,hk,λk' h=>by unfold binA;exact h⟩
  |(split at hk<;>first
   |exact False.elim hk
   |(rename_i hd;first
    |exact ⟨_,hk.k,λk' h=>by unfold binA;simp only [hd];exact ⟨hk.p,h⟩⟩
    |exact ⟨_,hk,λk' h=>by unfold binA;simp only [hd];exact h⟩))
theorem loc_bin{op:BinOp}{t u:TypeId}{x y:Operand}(hk:aop D τ ⟨d,.binOp op t x y u,ty,pos,af,gd⟩ e b k):Locl D τ ⟨d,.binOp op t x y u,ty,pos,af,gd⟩ e b k:=by
 unfold aop at hk
 simp only at hk
 split at hk
 ·rename_i p q hx hy
  split at hk
  ·rename_i ht
   refine ⟨_,_,hk,λe' b' k' hA h=>?_⟩
   unfold aop
   simp only [hA.op x (by simp [Op.operands]),hA.op y (by simp [Op.operands]),hx,hy,ht]
   exact h
  ·rename_i ht
   refine ⟨_,_,hk,λe' b' k' hA h=>?_⟩
   unfold aop
   simp only [hA.op x (by simp [Op.operands]),hA.op y (by simp [Op.operands]),hx,hy,ht]
   exact h
  ·cases hk
 ·rename_i cs ds hx hy
  split at hk
  ·rename_i ks hf
   split at hk
   ·rename_i q hq
    refine ⟨_,_,hk,λe' b' k' hA h=>?_⟩
    unfold aop
    simp only [hA.op x (by simp [Op.operands]),hA.op y (by simp [Op.operands]),hx,hy,hf,hq]
    exact h
   ·cases hk
  ·rename_i ks hf
   split at hk
   ·rename_i q hq
    refine ⟨_,_,hk,λe' b' k' hA h=>?_⟩
    unfold aop
    simp only [hA.op x (by simp [Op.operands]),hA.op y (by simp [Op.operands]),hx,hy,hf,hq]
    exact h
   ·cases hk
  ·cases hk
 ·rename_i p q hn hn2 hx hy
  obtain ⟨v,h1,h2⟩:=binA_loc hk
  refine ⟨_,_,h1,λe' b' k' hA h=>?_⟩
  unfold aop
  simp only [hA.op x (by simp [Op.operands]),hA.op y (by simp [Op.operands]),hx,hy]
  exact h2 _ h
 ·cases hk
theorem loc_build{t:TypeId}{ps:Array (Nat × Operand)}(hk:aop D τ ⟨d,.build t ps,ty,pos,af,gd⟩ e b k):Locl D τ ⟨d,.build t ps,ty,pos,af,gd⟩ e b k:=by
 unfold aop at hk
 simp only at hk
 split at hk
 ·rename_i n fs z ht
  split at hk
  ·rename_i ho
   obtain ⟨vs,h1,h2⟩:=partsO_loc hk
   cases hf:fillA fs vs z with
   |none=>simp [hf] at h1
   |some cs =>
    simp only [hf] at h1
    refine ⟨_,_,h1,λe' b' k' hA h=>?_⟩
    unfold aop
    simp only [ht,ho]
    refine h2 e' b' _ (λp hp=>hA.op p.2 (by simp only [Op.operands];exact List.mem_map.2 ⟨p,hp,rfl⟩)) (λi hi=>hA.bx i ?_) (by simp only [hf];exact h)
    simp only [rdO,passes,cond_false,obsO,List.append_nil,mnO,Op.operands]
    rw [List.flatMap_map];exact hi
  ·rename_i ho
   obtain ⟨vs,f,h1,h2⟩:=partsK_loc hk
   cases hf:fillA fs vs z with
   |none=>simp [hf] at h1
   |some cs =>
    simp only [hf] at h1
    refine ⟨_,_,h1,λe' b' k' hA h=>?_⟩
    unfold aop
    simp only [ht,ho]
    refine h2 e' b' _ (λp hp=>hA.op p.2 (by simp only [Op.operands];exact List.mem_map.2 ⟨p,hp,rfl⟩)) (λi hi=>hA.bx i ?_) (by simp only [hf];exact h)
    simp only [rdO,passes,cond_false,obsO,List.append_nil,mnO,Op.operands]
    rw [List.flatMap_map];exact hi
 ·rename_i n s one z ht
  obtain ⟨vs,f,h1,h2⟩:=partsK_loc hk
  cases hf:fillA (arrP s n 0) vs z with
  |none=>simp [hf] at h1
  |some cs =>
   simp only [hf] at h1
   refine ⟨_,_,h1,λe' b' k' hA h=>?_⟩
   unfold aop
   simp only [ht]
   refine h2 e' b' _ (λp hp=>hA.op p.2 (by simp only [Op.operands];exact List.mem_map.2 ⟨p,hp,rfl⟩)) (λi hi=>hA.bx i ?_) (by simp only [hf];exact h)
   simp only [rdO,passes,cond_false,obsO,List.append_nil,mnO,Op.operands]
   rw [List.flatMap_map];exact hi
 ·cases hk
theorem loc_buildSlice{t:TypeId}{n:Nat}{ps:Array (Nat × Operand)}(hk:aop D τ ⟨d,.buildSlice t n ps,ty,pos,af,gd⟩ e b k):Locl D τ ⟨d,.buildSlice t n ps,ty,pos,af,gd⟩ e b k:=by
 unfold aop at hk
 simp only at hk
 split at hk
 ·rename_i e1 s by_ z ht ho
  obtain ⟨vs,f,h1,h2⟩:=partsK_loc hk
  split at h1
  ·rename_i es hl h3
   have fin:∀{v:AV} {g:Bxs},(∀{k':AV→Bxs→Prop},k' v g→(match ownM τ || Nat.beq n 0 with
    |true=>(match (generalizing:=false) d with
     |some d=>(match f.any λp=>Nat.beq p.1 d with|false=>k' (.gs d n) (f++[(d,.grow e1 s es)])|true=>False)
     |none=>False)
    |false=>k' (.c (.sl s es)) f))→k v g→Locl D τ ⟨d,.buildSlice t n ps,ty,pos,af,gd⟩ e b k:=by
    intro v g hkk hkv
    refine ⟨_,_,hkv,λe' b' k' hA h=>?_⟩
    unfold aop
    simp only [ht,ho]
    refine h2 e' b' _ (λp hp=>hA.op p.2 (by simp only [Op.operands];exact List.mem_map.2 ⟨p,hp,rfl⟩)) (λi hi=>hA.bx i ?_) (by simp only [hl,h3];exact hkk h)
    simp only [rdO,passes,cond_false,obsO,List.append_nil,mnO,Op.operands]
    rw [List.flatMap_map];exact hi
   split at h1
   ·rename_i hm
    split at h1
    ·rename_i i
     split at h1
     ·rename_i hf
      exact fin (fun {k'} hk'=>by simp only [hm,hf];exact hk') h1
     ·cases h1
    ·cases h1
   ·rename_i hm
    exact fin (fun {k'} hk'=>by simp only [hm];exact hk') h1
  ·exact False.elim h1
 ·cases hk
theorem loc_makeSlice{t:TypeId}{x y:Operand}(hk:aop D τ ⟨d,.makeSlice t x y,ty,pos,af,gd⟩ e b k):Locl D τ ⟨d,.makeSlice t x y,ty,pos,af,gd⟩ e b k:=by
 unfold aop at hk
 simp only at hk
 split at hk
 ·rename_i T s by_ z k1 l k2 c i h1 hx hy
  obtain ⟨n,m,h2,h3,h4,h5,hk1⟩:=hk
  refine ⟨_,_,hk1,λe' b' k' hA h=>?_⟩
  unfold aop
  simp only [h1,hA.op x (by simp [Op.operands]),hA.op y (by simp [Op.operands]),hx,hy]
  exact ⟨n,m,h2,h3,h4,h5,h⟩
 ·cases hk
theorem optI_congr{e e':Env}{x:Option Operand}(h:∀y∈x.toArray.toList,ae e' y=ae e y):optI e' x=optI e x:=by
 cases x with
 |none=>rfl
 |some y=>simp only [optI,h y (by simp)]
theorem loc_slice{t:TypeId}{x:Operand}{lo hi mx:Option Operand}(hk:aop D τ ⟨d,.slice t x lo hi mx,ty,pos,af,gd⟩ e b k):Locl D τ ⟨d,.slice t x lo hi mx,ty,pos,af,gd⟩ e b k:=by
 unfold aop at hk
 simp only at hk
 split at hk
 ·rename_i T s by_ z s' es lo' hi' mx' h1 hx h2 h3 h4
  split at hk
  ·rename_i hs
   obtain ⟨p,q,m,q1,q2,q3,q4,q5,q6,q7,hk1⟩:=hk
   refine ⟨_,_,hk1,λe' b' k' hA h=>?_⟩
   unfold aop
   simp only [h1,hA.op x (by simp [Op.operands]),hx,optI_congr (x:=lo) (λy hy=>hA.op y (by simp [Op.operands];simp at hy;simp [hy])),optI_congr (x:=hi) (λy hy=>hA.op y (by simp [Op.operands];simp at hy;simp [hy])),optI_congr (x:=mx) (λy hy=>hA.op y (by simp [Op.operands];simp at hy;simp [hy])),h2,h3,h4,hs]
   exact ⟨p,q,m,q1,q2,q3,q4,q5,q6,q7,h⟩
  ·cases hk
 ·rename_i T s by_ z c n lo' hi' mx' h1 hx h2 h3 h4
  obtain ⟨v',f,hk1,hloc⟩:=argK_loc hk
  split at hk1
  ·split at hk1
   ·rename_i hs
    obtain ⟨p,q,m,q1,q2,q3,q4,q5,q6,q7,hk1⟩:=hk1
    refine ⟨_,_,hk1,λe' b' k' hA h=>?_⟩
    unfold aop
    simp only [h1,hA.op x (by simp [Op.operands]),hx,optI_congr (x:=lo) (λy hy=>hA.op y (by simp [Op.operands];simp at hy;simp [hy])),optI_congr (x:=hi) (λy hy=>hA.op y (by simp [Op.operands];simp at hy;simp [hy])),optI_congr (x:=mx) (λy hy=>hA.op y (by simp [Op.operands];simp at hy;simp [hy])),h2,h3,h4]
    refine hloc b' _ (λi hi=>hA.bx i (by simp [idsA] at hi;subst hi;simp [rdO,passes,obsO,mnO,Op.operands,idsO,hx,idsA])) ?_
    simp only [hs]
    exact ⟨p,q,m,q1,q2,q3,q4,q5,q6,q7,h⟩
   ·cases hk1
  ·cases hk1
 ·rename_i s lo' hi' h1 hx h2 h3 h4
  obtain ⟨p,q,m,q1,q2,q3,q4,q5,q6,q7,hk1⟩:=hk
  refine ⟨_,_,hk1,λe' b' k' hA h=>?_⟩
  unfold aop
  simp only [h1,hA.op x (by simp [Op.operands]),hx,optI_congr (x:=lo) (λy hy=>hA.op y (by simp [Op.operands];simp at hy;simp [hy])),optI_congr (x:=hi) (λy hy=>hA.op y (by simp [Op.operands];simp at hy;simp [hy])),optI_congr (x:=mx) (λy hy=>hA.op y (by simp [Op.operands];simp at hy;simp [hy])),h2,h3,h4]
  exact ⟨p,q,m,q1,q2,q3,q4,q5,q6,q7,h⟩
 ·rename_i n s one z i h1 hx h2 h3 h4
  split at hk
  ·rename_i cs hb hn hs
   cases hch:chunk s n cs with
   |none=>rw [hch] at hk;cases hk
   |some es =>
    rw [hch] at hk
    refine ⟨_,_,hk,λe' b' k' hA h=>?_⟩
    have hb':=hA.bx i (by simp [rdO,passes,obsO,mnO,Op.operands,idsO,hx,idsA])
    unfold aop
    simp only [h1,hA.op x (by simp [Op.operands]),hx,optI_congr (x:=lo) (λy hy=>hA.op y (by simp [Op.operands];simp at hy;simp [hy])),optI_congr (x:=hi) (λy hy=>hA.op y (by simp [Op.operands];simp at hy;simp [hy])),optI_congr (x:=mx) (λy hy=>hA.op y (by simp [Op.operands];simp at hy;simp [hy])),h2,h3,h4,hb',hb,hn,hs,hch]
    exact h
  ·cases hk
 ·rename_i T s by_ z lo' hi' mx' h1 hx h2 h3 h4
  obtain ⟨p,q,m,q1,q2,q3,q4,q5,q6,q7,hk1⟩:=hk
  refine ⟨_,_,hk1,λe' b' k' hA h=>?_⟩
  unfold aop
  simp only [h1,hA.op x (by simp [Op.operands]),hx,optI_congr (x:=lo) (λy hy=>hA.op y (by simp [Op.operands];simp at hy;simp [hy])),optI_congr (x:=hi) (λy hy=>hA.op y (by simp [Op.operands];simp at hy;simp [hy])),optI_congr (x:=mx) (λy hy=>hA.op y (by simp [Op.operands];simp at hy;simp [hy])),h2,h3,h4]
  exact ⟨p,q,m,q1,q2,q3,q4,q5,q6,q7,h⟩
 ·cases hk
end
end Go.Sw
namespace Go.Sw
open Go Go.RowKit
set_option linter.unusedVariables false
section
variable {P:Program} [Wld P] [Kp] [Gr] {τ:Tab} {N:Nat} {w0:World} {X0:List Nat} {S:List Bx} {M:MM} {a:Act} {w:World} {e:Env} {b:Bxs}
variable [WOk P w0]
variable {d:Option Nat} {ty:TypeId} {pos:String} {af:Array Edge} {gd:Option (Nat × Bool)} {k:AV→Bxs→Prop}
inductive CallA (D:FuncId→List AV→AV→Prop) (τ:Tab) (e:Env) (d:Option Nat) (callee:Callee) (vs:List AV) (ts:List TypeId) (b:Bxs) (k:AV→Bxs→Prop):Prop where
 |fn (f:FuncId) (cap:List AV) (x:Operand) (h:callee=.value x) (hx:fnA e x=some (f,cap)) (hn:ptrHead vs=none) (hs:wrH τ f vs=.no) (hk:argsK (vs++cap) b λa_s fz=>CallP D f a_s λr=>ownK d r λv g=>(match disjB fz g with|true=>k v (fzOf r fz++g)|false=>False))
 |fnw (f:FuncId) (cap:List AV) (x:Operand) (i:Nat) (r:List AV) (h:callee=.value x) (hx:fnA e x=some (f,cap)) (hn:ptrHead vs=some (i,r)) (hk:callW D f i (r++cap) b k)
 |fns (f:FuncId) (cap:List AV) (x:Operand) (i n:Nat) (r:List AV) (h:callee=.value x) (hx:fnA e x=some (f,cap)) (hn:ptrHead vs=none) (hs:wrH τ f vs=.s i n r) (hk:callS D f i n (r++cap) b k)
 |fnn (f:FuncId) (cap:List AV) (x:Operand) (r:List AV) (h:callee=.value x) (hx:fnA e x=some (f,cap)) (hn:ptrHead vs=none) (hs:wrH τ f vs=.nil r) (hk:argsK (r++cap) b λa_s fz=>CallP D f (.c (.v (.slice none 0 0)) :: a_s) λr=>ownK d r λv g=>(match disjB fz g with|true=>k v (fzOf r fz++g)|false=>False))
 |lens (s:Nat) (es:List (List Cell)) (t:TypeId) (e' s' b':Nat) (z:List Cell) (h:callee=.builtin .len) (hv:vs=[.c (.sl s es)]) (ht:ts=[t]) (hl:ld t τ=some (.slice e' s' b' z)) (hk:k (.int .i64 (es.length:Nat)) [])
 |lenstr (s:ByteArray) (t:TypeId) (h:callee=.builtin .len) (hv:vs=[.c (.v (.string s))]) (ht:ts=[t]) (hl:ld t τ=some .str) (hk:k (.int .i64 (s.size:Nat)) [])
 |leng (i n:Nat) (x:Bk) (s:Nat) (es:List (List Cell)) (t:TypeId) (e' s' b':Nat) (z:List Cell) (h:callee=.builtin .len) (hv:vs=[.gs i n]) (ht:ts=[t]) (hb:ld i b=some x) (hx:(∃T,x=.grow T s es)∨x=.froz s es) (hl:ld t τ=some (.slice e' s' b' z)) (hn:n=es.length) (hk:k (.int .i64 (es.length:Nat)) [])
 |lenn (t e' s' b':Nat) (z:List Cell) (h:callee=.builtin .len) (hv:vs=[.c (.v (.slice none 0 0))]) (ht:ts=[t]) (hl:ld t τ=some (.slice e' s' b' z)) (hk:k (.int .i64 ((0:Nat):Int)) [])
 |app0n (t T s by_:Nat) (z:List Cell) (i:Nat) (h:callee=.builtin .append) (hv:vs=[.c (.v (.slice none 0 0)),.c (.v (.slice none 0 0))]) (ht:ts=[t,t]) (hl:ld t τ=some (.slice T s by_ z)) (hd:d=some i) (hk:k (.gs i 0) [(i,.grow T s [])])
 |appn (s:Nat) (es:List (List Cell)) (t T by_:Nat) (z:List Cell) (i n:Nat) (h:callee=.builtin .append) (hv:vs=[.gs i n,.c (.v (.slice none 0 0))]) (ht:ts=[t,t]) (hl:ld t τ=some (.slice T s by_ z)) (hx:ld i b=some (.grow T s es)) (hn:n=es.length) (hb:(es++[]).length*(by_+1)≤140737488355328) (hk:k (.gs i (es++[]).length) [(i,.grow T s (es++[]))])
 |app0 (s:Nat) (es':List (List Cell)) (t T by_:Nat) (z:List Cell) (i:Nat) (h:callee=.builtin .append) (hv:vs=[.c (.v (.slice none 0 0)),.c (.sl s es')]) (ht:ts=[t,t]) (hl:ld t τ=some (.slice T s by_ z)) (hd:d=some i) (hb:es'.length*(by_+1)≤140737488355328) (hk:k (.gs i es'.length) [(i,.grow T s es')])
 |app (s:Nat) (es es':List (List Cell)) (t T by_:Nat) (z:List Cell) (i n:Nat) (h:callee=.builtin .append) (hv:vs=[.gs i n,.c (.sl s es')]) (ht:ts=[t,t]) (hl:ld t τ=some (.slice T s by_ z)) (hx:ld i b=some (.grow T s es)) (hn:n=es.length) (hb:(es++es').length*(by_+1)≤140737488355328) (hk:k (.gs i (es++es').length) [(i,.grow T s (es++es'))])
 |app0g (s c m:Nat) (es':List (List Cell)) (f:Bxs) (t T by_:Nat) (z:List Cell) (i:Nat) (h:callee=.builtin .append) (hv:vs=[.c (.v (.slice none 0 0)),.gs c m]) (ht:ts=[t,t]) (hl:ld t τ=some (.slice T s by_ z)) (hd:d=some i) (ha:argK b (.gs c m) λv g=>v=.c (.sl s es')∧g=f) (hi:(f.any λp=>Nat.beq p.1 i)=false) (hb:es'.length*(by_+1)≤140737488355328) (hk:k (.gs i es'.length) (f++[(i,.grow T s es')]))
 |appg (s c m:Nat) (es es':List (List Cell)) (f:Bxs) (t T by_:Nat) (z:List Cell) (i n:Nat) (h:callee=.builtin .append) (hv:vs=[.gs i n,.gs c m]) (ht:ts=[t,t]) (hl:ld t τ=some (.slice T s by_ z)) (hx:ld i b=some (.grow T s es)) (hic:¬i=c) (ha:argK b (.gs c m) λv g=>v=.c (.sl s es')∧g=f) (hn:n=es.length) (hb:(es++es').length*(by_+1)≤140737488355328) (hk:k (.gs i (es++es').length) (f++[(i,.grow T s (es++es'))]))
 |min (ki:IntKind) (n0 n1:Int) (ns:List Int) (r:List AV) (h:callee=.builtin .min) (hv:vs=.c (.v (.int ki n1)) :: r) (hn:mapO intA vs=some (n0 :: ns)) (hk:k (.int ki (ns.foldl (λx y=>if y<x then y else x) n0)) [])
 |max (ki:IntKind) (n0 n1:Int) (ns:List Int) (r:List AV) (h:callee=.builtin .max) (hv:vs=.c (.v (.int ki n1)) :: r) (hn:mapO intA vs=some (n0 :: ns)) (hk:k (.int ki (ns.foldl (λx y=>if y > x then y else x) n0)) [])
theorem callA{D:FuncId→List AV→AV→Prop}{callee:Callee}{xs:Array Operand}{ts:Array TypeId}(hk:aop D τ ⟨d,.call ⟨callee,xs,ts⟩,ty,pos,af,gd⟩ e b k):
 ∃vs,mapO (λx=>ae e x) xs.toList=some vs∧CallA D τ e d callee vs ts.toList b k:=by
 unfold aop at hk
 simp only at hk
 split at hk
 ·rename_i x vs hv
  split at hk
  ·rename_i f cap hx hn
   split at hk
   ·rename_i i n r hs;exact ⟨_,hv,.fns f cap x i n r rfl hx hn hs hk⟩
   ·rename_i r hs;exact ⟨_,hv,.fnn f cap x r rfl hx hn hs hk⟩
   ·rename_i hs;exact ⟨_,hv,.fn f cap x rfl hx hn hs hk⟩
  ·rename_i f cap i r hx hn;exact ⟨_,hv,.fnw f cap x i r rfl hx hn hk⟩
  ·exact False.elim hk
 ·rename_i s es hv
  split at hk
  ·rename_i t ht
   split at hk
   ·rename_i e' s' b' z hl
    exact ⟨_,hv,.lens s es t e' s' b' z rfl rfl ht hl hk⟩
   ·cases hk
  ·cases hk
 ·rename_i s hv
  split at hk
  ·rename_i t ht
   split at hk
   ·rename_i hl
    exact ⟨_,hv,.lenstr s t rfl rfl ht hl hk⟩
   ·cases hk
  ·cases hk
 ·rename_i i n hv
  split at hk
  ·rename_i t T s es ht hb
   split at hk
   ·rename_i e' s' b' z hl
    exact ⟨_,hv,.leng i n _ s es t e' s' b' z rfl rfl ht hb (.inl ⟨T,rfl⟩) hl hk.p hk.k⟩
   ·cases hk
  ·rename_i t s es ht hb
   split at hk
   ·rename_i e' s' b' z hl
    exact ⟨_,hv,.leng i n _ s es t e' s' b' z rfl rfl ht hb (.inr rfl) hl hk.p hk.k⟩
   ·cases hk
  ·cases hk
 ·rename_i hv
  split at hk
  ·rename_i t ht
   split at hk
   ·rename_i e' s' b' z hl
    exact ⟨_,hv,.lenn t e' s' b' z rfl rfl ht hl hk⟩
   ·cases hk
  ·cases hk
 ·rename_i x y hv
  split at hk
  ·rename_i t t' ht
   split at hk
   ·rename_i T s by_ z htt hl
    have:=Nat.eq_of_beq_eq_true htt
    subst this
    split at hk
    ·rename_i c m
     split at hk
     ·rename_i i n
      obtain ⟨v',f,h1,h2⟩:=argK_loc hk
      have ha:∀{x:AV} {f':Bxs},v'=x→f=f'→argK b (.gs c m) λv g=>v=x∧g=f':=λe1 e2=>h2 b _ (λ_ _=>rfl) ⟨e1,e2⟩
      split at h1
      ·rename_i s' es' T' s'' es hb hbc
       split at h1
       ·rename_i hT hs2 hs
        have e1:=Nat.eq_of_beq_eq_true hT
        have e2:=Nat.eq_of_beq_eq_true hs2
        have e3:=Nat.eq_of_beq_eq_true hs
        subst e1 e2 e3
        exact ⟨_,hv,.appg s c m es es' f t T by_ z i n rfl rfl ht hl hb (λe=>by subst e;simp at hbc) (ha rfl rfl) h1.p h1.k.p h1.k.k⟩
       ·cases h1
      ·cases h1
     ·obtain ⟨v',f,h1,h2⟩:=argK_loc hk
      have ha:∀{x:AV} {f':Bxs},v'=x→f=f'→argK b (.gs c m) λv g=>v=x∧g=f':=λe1 e2=>h2 b _ (λ_ _=>rfl) ⟨e1,e2⟩
      split at h1
      ·rename_i s' es' i
       split at h1
       ·rename_i hs hi
        have e3:=Nat.eq_of_beq_eq_true hs
        subst e3
        exact ⟨_,hv,.app0g s c m es' f t T by_ z i rfl rfl ht hl rfl (ha rfl rfl) hi h1.p h1.k⟩
       ·cases h1
      ·cases h1
     ·cases hk
    ·split at hk
     ·split at hk
      ·rename_i i
       exact ⟨_,hv,.app0n t T s by_ z i rfl rfl ht hl rfl hk⟩
      ·cases hk
     ·rename_i i n
      split at hk
      ·rename_i T' s'' es hb
       split at hk
       ·rename_i hT hs2
        have h1:=Nat.eq_of_beq_eq_true hT
        have h2:=Nat.eq_of_beq_eq_true hs2
        subst h1 h2
        exact ⟨_,hv,.appn s es t T by_ z i n rfl rfl ht hl hb hk.p hk.k.p hk.k.k⟩
       ·cases hk
      ·cases hk
     ·cases hk
    ·rename_i s' es'
     split at hk
     ·rename_i hs
      have:=Nat.eq_of_beq_eq_true hs
      subst this
      split at hk
      ·split at hk
       ·rename_i i
        exact ⟨_,hv,.app0 s es' t T by_ z i rfl rfl ht hl rfl hk.p hk.k⟩
       ·cases hk
      ·rename_i i n
       split at hk
       ·rename_i T' s'' es hb
        split at hk
        ·rename_i hT hs2
         have h1:=Nat.eq_of_beq_eq_true hT
         have h2:=Nat.eq_of_beq_eq_true hs2
         subst h1 h2
         exact ⟨_,hv,.app s es es' t T by_ z i n rfl rfl ht hl hb hk.p hk.k.p hk.k.k⟩
        ·cases hk
       ·cases hk
      ·cases hk
     ·cases hk
    ·cases hk
   ·cases hk
  ·cases hk
 ·rename_i vs hv
  split at hk
  ·rename_i n0 ns ki n1 r hn
   exact ⟨_,hv,.min ki n0 n1 ns r rfl rfl hn hk⟩
  ·cases hk
 ·rename_i vs hv
  split at hk
  ·rename_i n0 ns ki n1 r hn
   exact ⟨_,hv,.max ki n0 n1 ns r rfl rfl hn hk⟩
  ·cases hk
 ·cases hk
theorem gs_len{c m:Nat}{v0:AV}{f0:Bxs}(h:Sta N w0 X0 S M a w e b)(ha:argK b (.gs c m) λv g=>v=v0∧g=f0){mb:MB}(hm:M c=some mb):mb.n=m:=by
 unfold argK at ha
 simp only at ha
 split at ha
 ·rename_i T s es hb
  obtain ⟨m',hm',q1,q2,q3,q4,q5,q6⟩:=h.box c _ hb
  rw [hm] at hm';cases hm'
  have:=ha.p;omega
 ·rename_i s es hb
  obtain ⟨m',hm',q1,q2,q3,q4⟩:=h.box c _ hb
  rw [hm] at hm';cases hm'
  have:=ha.p;omega
 ·cases ha
theorem gs_keys{c m:Nat}{v0:AV}{f0:Bxs}(ha:argK b (.gs c m) λv g=>v=v0∧g=f0):∀i∈f0.map (·.1),i=c:=by
 unfold argK at ha
 simp only at ha
 split at ha
 ·have:=ha.k.2;subst this;simp
 ·have:=ha.k.2;subst this;simp
 ·cases ha
theorem aop_call{c:Call}(hτ:tabOk P τ=true)(h:Sta N w0 X0 S M a w e b)(hk:aop (Den P) τ ⟨d,.call c,ty,pos,af,gd⟩ e b k):Good P w0 X0 S M a w ⟨d,.call c,ty,pos,af,gd⟩ k:=by
 obtain ⟨callee,xs,ts⟩:=c
 obtain ⟨vs,hv,hc⟩:=callA hk
 have hta:∀{l:List TypeId},ts.toList=l→ts=l.toArray:=λh=>Array.ext' (by simpa using h)
 cases hc with
 |fn f cap x h1 hx hn hs hk1=>subst h1;exact call_fn hx h hv hk1
 |fnw f cap x i r h1 hx hn hk1=>subst h1;rw [ptrHead_some hn] at hv;exact call_fnw hx h hv hk1
 |fns f cap x i n r h1 hx hn hs hk1=>subst h1;rw [wrH_some hs] at hv;exact call_s hx h hv hk1
 |fnn f cap x r h1 hx hn hs hk1=>subst h1;rw [wrH_nil hs] at hv;exact call_fnn hx h hv hk1
 |lens s es t e' s' b' z h1 h2 h3 h4 hk1 =>
  subst h1 h2
  rw [hta h3]
  exact call_len (tab_at hτ h4) h hv (λu hu=>by obtain ⟨A,cap,uss,ha,_⟩:=RepS.of_sl hu.sl_;exact ⟨A,cap,ha⟩) hk1
 |lenstr s t h1 h2 h3 h4 hk1 =>
  subst h1 h2
  rw [hta h3]
  obtain ⟨us,hu,hl,hr⟩:=ops_get h hv
  obtain ⟨u,rfl⟩:∃u,us=[u]:=by
   match us,hl with
   |[u],_=>exact ⟨u,rfl⟩
  have hue:=(hr 0 u _ rfl rfl).v_
  subst hue
  refine .val h.ms hk1 (u:=.int .i64 s.size) ?_ (.d (.c (.v _ rfl)))
  simp [execOp,resolve,invoke,builtin,hu,Builtin.len_,run_underlying (strT (tab_at hτ h4)),goInt]
 |leng i n x s es t e' s' b' z h1 h2 h3 h4 h5 h6 h7 hk1 =>
  subst h1 h2
  rw [hta h3]
  refine call_len (tab_at hτ h6) h hv (λu hu=>?_) hk1
  obtain ⟨m,hm,q1,q2,q3,_⟩:=h.elems h4 h5
  obtain ⟨m',hm',hvv,hn⟩:=hu.gs_
  rw [hm] at hm'
  cases hm'
  rw [hn (by omega)]
  unfold hdr
  exact ⟨_,_,by rw [q3]⟩
 |lenn t e' s' b' z h1 h2 h3 h4 hk1 =>
  subst h1 h2
  rw [hta h3]
  exact call_len (tab_at hτ h4) h hv (λu hu=>⟨none,0,hu.v_⟩) hk1
 |app0n t T s by_ z i h1 h2 h3 h4 h5 hk1 =>
  subst h1 h2
  rw [hta h3]
  exact call_append (es':=[]) (tab_at hτ h4) h hv h.ms (Chg.refl _ _ _) (FrzOnly.nil _) (λu hu=>by rw [hu.v_];exact .c (RepC.nil _ _ _)) (.inl ⟨rfl,i,h5,by simp,by simp,hk1⟩)
 |appn s es t T by_ z i n h1 h2 h3 h4 h5 h6 h7 hk1 =>
  subst h1 h2
  rw [hta h3]
  exact call_append (es':=[]) (tab_at hτ h4) h hv h.ms (Chg.refl _ _ _) (FrzOnly.nil _) (λu hu=>by rw [hu.v_];exact .c (RepC.nil _ _ _)) (.inr ⟨i,n,es,rfl,by simp,h5,h6,h7,hk1⟩)
 |app0 s es' t T by_ z i h1 h2 h3 h4 h5 h6 hk1 =>
  subst h1 h2
  rw [hta h3]
  exact call_append (tab_at hτ h4) h hv h.ms (Chg.refl _ _ _) (FrzOnly.nil _) (λu hu => .c hu.sl_) (.inl ⟨rfl,i,h5,by simp,h6,hk1⟩)
 |app0g s c m es' f t T by_ z i h1 h2 h3 h4 h5 h6 h7 h8 hk1 =>
  subst h1 h2
  rw [hta h3]
  obtain ⟨us,hu,hl,hr⟩:=ops_get h hv
  obtain ⟨u0,u1,rfl⟩:∃u0 u1,us=[u0,u1]:=by
   match us,hl with
   |[u0,u1],_=>exact ⟨u0,u1,rfl⟩
  obtain ⟨v',f',S1,M1,⟨rfl,rfl⟩,hm1,hc1,hd1,hfo⟩:=argK_ok h (hr 1 u1 _ rfl rfl) h6
  have huq:∀u,RepV w (bl S++X0) M u (.gs c m)→RepD w (bl S1++X0) u (.c (.sl s es')):=λu hu=>by
   obtain ⟨mb,q1,q2,q3⟩:=hu.gs_
   obtain ⟨mb',q1',q2',q3'⟩:=(hr 1 u1 _ rfl rfl).gs_
   rw [q1] at q1'
   cases q1'
   have hn:mb.n=m:=gs_len h h6 q1
   rw [q3 hn,← q3' hn]
   exact hd1
  refine call_append (tab_at hτ h4) h hv hm1 hc1 hfo huq (.inl ⟨rfl,i,h5,λhm=>?_,h8,hk1⟩)
  obtain ⟨p,hp,hpe⟩:=List.mem_map.1 hm
  have:=List.any_eq_false.1 h7 p hp
  rw [hpe] at this
  simp at this
 |app s es es' t T by_ z i n h1 h2 h3 h4 h5 h6 h7 hk1 =>
  subst h1 h2
  rw [hta h3]
  exact call_append (tab_at hτ h4) h hv h.ms (Chg.refl _ _ _) (FrzOnly.nil _) (λu hu => .c hu.sl_) (.inr ⟨i,n,es,rfl,by simp,h5,h6,h7,hk1⟩)
 |appg s c m es es' f t T by_ z i n h1 h2 h3 h4 h5 h6 h7 h8 h9 hk1 =>
  subst h1 h2
  rw [hta h3]
  obtain ⟨us,hu,hl,hr⟩:=ops_get h hv
  obtain ⟨u0,u1,rfl⟩:∃u0 u1,us=[u0,u1]:=by
   match us,hl with
   |[u0,u1],_=>exact ⟨u0,u1,rfl⟩
  have hkeys:=gs_keys h7
  obtain ⟨v',f',S1,M1,⟨rfl,rfl⟩,hm1,hc1,hd1,hfo⟩:=argK_ok h (hr 1 u1 _ rfl rfl) h7
  have huq:∀u,RepV w (bl S++X0) M u (.gs c m)→RepD w (bl S1++X0) u (.c (.sl s es')):=λu hu=>by
   obtain ⟨mb,q1,q2,q3⟩:=hu.gs_
   obtain ⟨mb',q1',q2',q3'⟩:=(hr 1 u1 _ rfl rfl).gs_
   rw [q1] at q1'
   cases q1'
   have hn:mb.n=m:=gs_len h h7 q1
   rw [q3 hn,← q3' hn]
   exact hd1
  exact call_append (tab_at hτ h4) h hv hm1 hc1 hfo huq (.inr ⟨i,n,es,rfl,λhm=>h6 (hkeys i hm),h5,h8,h9,hk1⟩)
 |min ki n0 n1 ns r h1 h2 h3 hk1=>subst h1 h2;exact call_minmax false h hv h3 (by simpa using hk1)
 |max ki n0 n1 ns r h1 h2 h3 hk1=>subst h1 h2;exact call_minmax true h hv h3 (by simpa using hk1)
theorem own_key{r:AV}{fz:Bxs}(hkr:ownK d r λv g=>(match disjB fz g with|true=>k v (fzOf r fz++g)|false=>False)):∃v g,k v g∧∀k':AV→Bxs→Prop,k' v g→ownK d r λv g=>(match disjB fz g with|true=>k' v (fzOf r fz++g)|false=>False):=by
 rcases ownK_cases hkr with ⟨hno,hk2,h4⟩|⟨T,s,es,i,rfl,rfl,hk2,h4⟩|⟨vs',i,V,F,rfl,rfl,hle,hVF,hk2,h4⟩
 ·exact ⟨_,_,hk2,λk' hk'=>(by
   have h5:∀{q:AV→Bxs→Prop},q r []→ownK d r q:=fun {q} hq=>by
    unfold ownK
    cases r<;>first|exact hq|(simp [noOwn] at hno;done)|skip
    rename_i vs'
    have:vs'.any isOwn=false:=by
     rw [List.any_eq_false]
     intro y hy
     have:=List.all_eq_true.1 hno y hy
     simpa using this
    simp only [this]
    exact hq
   exact h5 hk')⟩
 ·split at hk2
  ·rename_i hdj
   exact ⟨_,_,hk2,λk' hk'=>by unfold ownK;simp only [hdj];exact hk'⟩
  ·cases hk2
 ·split at hk2
  ·rename_i hdj
   refine ⟨_,_,hk2,λk' hk'=>?_⟩
   unfold ownK at hkr ⊢
   simp only at hkr ⊢
   cases hq:vs'.any isOwn with
   |false =>
    simp only [hq] at hkr ⊢
    have hall:(vs'.all λv=>!isOwn v)=true:=List.all_eq_true.2 λy hy=>by
     have:=List.any_eq_false.1 hq y hy
     simpa using this
    have hV:V=vs'∧F=[]:=by
     have key:∀{vs:List AV} {i j:Nat} {k:List AV→Bxs→Prop},(vs.all λv=>!isOwn v)=true→tupK i j vs k→k vs []:=by
      intro vs
      induction vs with
      |nil=>intro i j k _ h;exact h
      |cons v r ih =>
       intro i j k h hk
       simp only [List.all_cons,Bool.and_eq_true] at h
       cases v<;>first
        |(simp [isOwn] at h;done)
        |exact ih (k:=λvs f=>k (_ :: vs) f) h.2 hk
     have:=key (i:=i) (j:=KK) (k:=λa c=>V=a∧F=c) hall (by rw [hVF];exact ⟨rfl,rfl⟩)
     exact this
    obtain ⟨rfl,rfl⟩:=hV
    simp only [hdj]
    exact hk'
   |true =>
    simp only [Nat.ble_eq_true_of_le hle]
    rw [hVF]
    simp only [hdj]
    exact hk'
  ·cases hk2
theorem loc_call{D:FuncId→List AV→AV→Prop}{c:Call}(hk:aop D τ ⟨d,.call c,ty,pos,af,gd⟩ e b k):Locl D τ ⟨d,.call c,ty,pos,af,gd⟩ e b k:=by
 obtain ⟨callee,xs,ts⟩:=c
 obtain ⟨vs,hv,hc⟩:=callA hk
 have hops:∀{e' b'},Alike ⟨d,.call ⟨callee,xs,ts⟩,ty,pos,af,gd⟩ e b e' b'→mapO (λx=>ae e' x) xs.toList=some vs:=by
  intro e' b' hA
  rw [← hv]
  exact mapO_congr λx hx=>hA.op x (by simp only [Op.operands,Call.operands];simp only [Array.toList_append];exact List.mem_append_right _ hx)
 have hfnA:∀{e' b'} {x:Operand},Alike ⟨d,.call ⟨callee,xs,ts⟩,ty,pos,af,gd⟩ e b e' b'→callee=.value x→fnA e' x=fnA e x:=by
  intro e' b' x hA hc
  subst hc
  unfold fnA
  rw [hA.op x (by simp [Op.operands,Call.operands])]
 have hids:∀{e' b'},Alike ⟨d,.call ⟨callee,xs,ts⟩,ty,pos,af,gd⟩ e b e' b'→LocB (vs.flatMap idsA) b b':=by
  intro e' b' hA i hi
  refine hA.bx i ?_
  simp only [rdO,passes,cond_false,obsO,List.append_nil,mnO,Op.operands,Call.operands,Array.toList_append]
  rw [List.flatMap_append,mapO_ids hv] at *
  exact List.mem_append_right _ hi
 have hcap:∀{f:FuncId} {cap:List AV} {x:Operand},fnA e x=some (f,cap)→cap.flatMap idsA=[]:=by
  intro f cap x hx
  unfold fnA at hx
  split at hx
  ·split at hx
   ·cases hx;rfl
   ·cases hx
  ·rename_i f' cs hu
   cases hx
   induction cs with
   |nil=>rfl
   |cons c r ih=>rw [List.map_cons,List.flatMap_cons];simpa [idsA] using ih
  ·cases hx
 cases hc with
 |fn f cap x h1 hx hn hs hk1 =>
  subst h1
  have hfx:=fun {e' b'} (hA:Alike ⟨d,.call ⟨.value x,xs,ts⟩,ty,pos,af,gd⟩ e b e' b')=>hfnA hA rfl
  obtain ⟨a_s,fz,⟨r,hr,hkr⟩,h3⟩:=argsK_loc hk1
  obtain ⟨v,g,hkv,h4⟩:=own_key hkr
  refine ⟨_,_,hkv,λe' b' k' hA h=>?_⟩
  unfold aop
  simp only [hops hA,hfx hA,hx,hn,hs]
  ·refine h3 b' _ (λi hi=>?_) ⟨r,hr,h4 _ h⟩
   rw [List.flatMap_append,hcap hx,List.append_nil] at hi
   exact hids hA i hi
 |fnw f cap x i r h1 hx hn hk1 =>
  subst h1
  have hfx:=fun {e' b'} (hA:Alike ⟨d,.call ⟨.value x,xs,ts⟩,ty,pos,af,gd⟩ e b e' b')=>hfnA hA rfl
  rcases callW_some hk1 with ⟨cs,hbx,hk1⟩|⟨G,hbx,hk1⟩
  case inr =>
   obtain ⟨a_s,fz,hk2,h3⟩:=argsK_loc hk1
   match fz,hk2,h3 with
   |_ :: _,hk2,_=>exact False.elim hk2
   |[],⟨q,hq,hkq⟩,h3 =>
   obtain ⟨G',v,rfl,hpl,hkv⟩:=callGR_some hkq
   refine ⟨_,_,hkv,λe' b' k' hA h=>?_⟩
   have hvs:=ptrHead_some hn
   have hid:=hids hA
   unfold aop
   simp only [hops hA,hfx hA,hx,hn]
   unfold callW
   rw [hid i (by rw [hvs];simp [idsA]),hbx]
   exact h3 b' _ (λj hj=>hid j (by rw [List.flatMap_append,hcap hx,List.append_nil] at hj;rw [hvs,List.flatMap_cons];exact List.mem_append_right _ hj)) ⟨_,hq,by unfold callGR;simp only [hpl];exact h⟩
  obtain ⟨a_s,fz,hk2,h3⟩:=argsK_loc hk1
  match fz,hk2,h3 with
  |_ :: _,hk2,_=>exact False.elim hk2
  |[],⟨q,hq,hkq⟩,h3 =>
  obtain ⟨cs',v,rfl,hpl,hkv⟩:=callR_some hkq
  refine ⟨_,_,hkv,λe' b' k' hA h=>?_⟩
  have hvs:=ptrHead_some hn
  have hid:=hids hA
  unfold aop
  simp only [hops hA,hfx hA,hx,hn]
  unfold callW
  rw [hid i (by rw [hvs];simp [idsA]),hbx]
  exact h3 b' _ (λj hj=>hid j (by rw [List.flatMap_append,hcap hx,List.append_nil] at hj;rw [hvs,List.flatMap_cons];exact List.mem_append_right _ hj)) ⟨_,hq,by unfold callR;simp only [hpl];exact h⟩
 |fnn f cap x r0 h1 hx hn hs hk1 =>
  subst h1
  have hfx:=fun {e' b'} (hA:Alike ⟨d,.call ⟨.value x,xs,ts⟩,ty,pos,af,gd⟩ e b e' b')=>hfnA hA rfl
  obtain ⟨a_s,fz,⟨r,hr,hkr⟩,h3⟩:=argsK_loc hk1
  obtain ⟨v,g,hkv,h4⟩:=own_key hkr
  refine ⟨_,_,hkv,λe' b' k' hA h=>?_⟩
  unfold aop
  simp only [hops hA,hfx hA,hx,hn,hs]
  refine h3 b' _ (λi hi=>?_) ⟨r,hr,h4 _ h⟩
  rw [List.flatMap_append,hcap hx,List.append_nil] at hi
  exact hids hA i (by rw [wrH_nil hs,List.flatMap_cons];exact List.mem_append_right _ hi)
 |fns f cap x i n r h1 hx hn hs hk1 =>
  subst h1
  have hfx:=fun {e' b'} (hA:Alike ⟨d,.call ⟨.value x,xs,ts⟩,ty,pos,af,gd⟩ e b e' b')=>hfnA hA rfl
  obtain ⟨T,s,es,hbx,hk1⟩:=callS_some hk1
  obtain ⟨a_s,fz,hk2,h3⟩:=argsK_loc hk1
  match fz,hk2,h3 with
  |_ :: _,hk2,_=>exact False.elim hk2
  |[],⟨hp,hlen⟩,h3 =>
  have hvs:=wrH_some hs
  rcases Nat.eq_zero_or_pos es.length with hz|hpos
  ·obtain ⟨q,hq,hkq⟩:=hlen.f hz
   obtain ⟨hpl,hkv⟩:=callNR_some hkq
   refine ⟨_,_,hkv,λe' b' k' hA h=>?_⟩
   have hid:=hids hA
   unfold aop
   simp only [hops hA,hfx hA,hx,hn,hs]
   unfold callS
   rw [hid i (by rw [hvs];simp [idsA]),hbx]
   exact h3 b' _ (λj hj=>hid j (by rw [List.flatMap_append,hcap hx,List.append_nil] at hj;rw [hvs,List.flatMap_cons];exact List.mem_append_right _ hj)) ⟨hp,⟨λh0=>absurd hz (by omega),λ_=>⟨_,hq,by unfold callNR;rw [hpl];exact h⟩⟩⟩
  obtain ⟨q,hq,hkq⟩:=hlen.t hpos
  rcases callSR_some hkq with ⟨es',v,rfl,hpl,hkv⟩|⟨v,rfl,hpl,hkv⟩
  all_goals refine ⟨_,_,hkv,λe' b' k' hA h=>?_⟩
  ·have hid:=hids hA
   unfold aop
   simp only [hops hA,hfx hA,hx,hn,hs]
   unfold callS
   rw [hid i (by rw [hvs];simp [idsA]),hbx]
   exact h3 b' _ (λj hj=>hid j (by rw [List.flatMap_append,hcap hx,List.append_nil] at hj;rw [hvs,List.flatMap_cons];exact List.mem_append_right _ hj)) ⟨hp,⟨λ_=>⟨_,hq,by unfold callSR;simp only [Nat.beq_refl,hpl];exact h⟩,λh0=>absurd h0 (by omega)⟩⟩
  ·have hid:=hids hA
   unfold aop
   simp only [hops hA,hfx hA,hx,hn,hs]
   unfold callS
   rw [hid i (by rw [hvs];simp [idsA]),hbx]
   exact h3 b' _ (λj hj=>hid j (by rw [List.flatMap_append,hcap hx,List.append_nil] at hj;rw [hvs,List.flatMap_cons];exact List.mem_append_right _ hj)) ⟨hp,⟨λ_=>⟨_,hq,by unfold callSR;simp only [hpl];exact h⟩,λh0=>absurd h0 (by omega)⟩⟩
 |lens s es t e' s' b' z h1 h2 h3 h4 hk1 =>
  subst h1 h2
  refine ⟨_,_,hk1,λe' b' k' hA h=>?_⟩
  unfold aop
  simp only [hops hA,h3,h4]
  exact h
 |lenstr s t h1 h2 h3 h4 hk1 =>
  subst h1 h2
  refine ⟨_,_,hk1,λe' b' k' hA h=>?_⟩
  unfold aop
  simp only [hops hA,h3,h4]
  exact h
 |leng i n x s es t e' s' b' z h1 h2 h3 h4 h5 h6 h7 hk1 =>
  subst h1 h2
  refine ⟨_,_,hk1,λe' b' k' hA h=>?_⟩
  have hb':=hids hA i (by simp [idsA])
  unfold aop
  rcases h5 with ⟨T,rfl⟩|rfl
  ·simp only [hops hA,h3,hb',h4,h6];exact ⟨h7,h⟩
  ·simp only [hops hA,h3,hb',h4,h6];exact ⟨h7,h⟩
 |app0 s es' t T by_ z i h1 h2 h3 h4 h5 h6 hk1 =>
  subst h1 h2 h5
  refine ⟨_,_,hk1,λe' b' k' hA h=>?_⟩
  unfold aop
  simp only [hops hA,h3,h4,Nat.beq_refl]
  exact ⟨h6,h⟩
 |app0g s c m es' f t T by_ z i h1 h2 h3 h4 h5 h6 h7 h8 hk1 =>
  subst h1 h2 h5
  refine ⟨_,_,hk1,λe' b' k' hA h=>?_⟩
  obtain ⟨v',f',⟨rfl,rfl⟩,h9⟩:=argK_loc h6
  unfold aop
  simp only [hops hA,h3,h4,Nat.beq_refl]
  refine h9 b' _ (λj hj=>hids hA j (by simp only [List.flatMap_cons];exact List.mem_append_right _ (List.mem_append_left _ hj))) ?_
  simp only [Nat.beq_refl,h7]
  exact ⟨h8,h⟩
 |appg s c m es es' f t T by_ z i n h1 h2 h3 h4 h5 h6 h7 h8 h9 hk1 =>
  subst h1 h2
  refine ⟨_,_,hk1,λe' b' k' hA h=>?_⟩
  have hb':=hids hA i (by simp [idsA])
  obtain ⟨v',f',⟨rfl,rfl⟩,h10⟩:=argK_loc h7
  unfold aop
  simp only [hops hA,h3,h4,Nat.beq_refl]
  refine h10 b' _ (λj hj=>hids hA j (by simp [idsA] at hj ⊢;exact .inr hj)) ?_
  simp only [hb',h5,Nat.beq_refl,beq_no h6]
  exact ⟨h8,⟨h9,h⟩⟩
 |app s es es' t T by_ z i n h1 h2 h3 h4 h5 h6 h7 hk1 =>
  subst h1 h2
  refine ⟨_,_,hk1,λe' b' k' hA h=>?_⟩
  have hb':=hids hA i (by simp [idsA])
  unfold aop
  simp only [hops hA,h3,h4,hb',h5,Nat.beq_refl]
  exact ⟨h6,⟨h7,h⟩⟩
 |lenn t e' s' b' z h1 h2 h3 h4 hk1 =>
  subst h1 h2
  refine ⟨_,_,hk1,λe' b' k' hA h=>?_⟩
  unfold aop
  simp only [hops hA,h3,h4]
  exact h
 |app0n t T s by_ z i h1 h2 h3 h4 h5 hk1 =>
  subst h1 h2 h5
  refine ⟨_,_,hk1,λe' b' k' hA h=>?_⟩
  unfold aop
  simp only [hops hA,h3,h4,Nat.beq_refl]
  exact h
 |appn s es t T by_ z i n h1 h2 h3 h4 h5 h6 h7 hk1 =>
  subst h1 h2
  refine ⟨_,_,hk1,λe' b' k' hA h=>?_⟩
  have hb':=hids hA i (by simp [idsA])
  unfold aop
  simp only [hops hA,h3,h4,hb',h5,Nat.beq_refl]
  exact ⟨h6,⟨h7,h⟩⟩
 |min ki n0 n1 ns r h1 h2 h3 hk1 =>
  subst h1 h2
  refine ⟨_,_,hk1,λe' b' k' hA h=>?_⟩
  unfold aop
  simp only [hops hA,h3]
  exact h
 |max ki n0 n1 ns r h1 h2 h3 hk1 =>
  subst h1 h2
  refine ⟨_,_,hk1,λe' b' k' hA h=>?_⟩
  unfold aop
  simp only [hops hA,h3]
  exact h
theorem aop_good{o:Oper}(hτ:tabOk P τ=true)(h:Sta N w0 X0 S M a w e b)(hk:aop (Den P) τ o e b k):Good P w0 X0 S M a w o k:=by
 obtain ⟨d,op,ty,pos,af,gd⟩:=o
 cases op with
 |move x=>exact aop_move (τ:=τ) h hk
 |assign x=>exact aop_assign hτ h hk
 |pick x y z=>exact aop_pick h hk
 |alloc t=>exact aop_alloc hτ h hk
 |box t x=>exact aop_box h hk
 |load t x=>exact aop_load hτ h hk
 |store t x y=>exact aop_store hτ h hk
 |fieldAddr t x i=>exact aop_fieldAddr hτ h hk
 |field t x i=>exact aop_field hτ h hk
 |indexAddr t x y=>exact aop_indexAddr hτ h hk
 |index t x y=>exact aop_index hτ h hk
 |extract x i=>exact aop_extract h hk
 |binOp op t x y u=>exact aop_bin hτ h hk
 |unOp op t x =>
  cases op with
  |not=>exact aop_not h hk
  |neg=>exact aop_neg h hk
  |_=>exact False.elim hk
 |convert s t x=>exact aop_conv hτ h hk
 |build t ps=>exact aop_build hτ h hk
 |buildSlice t n ps=>exact aop_buildSlice hτ h hk
 |makeFunc fn first captured=>exact aop_makeFunc h hk
 |call c=>exact aop_call hτ h hk
 |makeSlice t x y=>exact aop_makeSlice hτ h hk
 |slice t x lo hi mx=>exact aop_slice hτ h hk
 |nilCheck x=>exact aop_nilCheck h hk
 |_=>exact False.elim hk
theorem aop_locl{D:FuncId→List AV→AV→Prop}{o:Oper}(hk:aop D τ o e b k):Locl D τ o e b k:=by
 obtain ⟨d,op,ty,pos,af,gd⟩:=o
 cases op with
 |move x=>exact loc_move hk
 |assign x=>exact loc_assign hk
 |pick x y z=>exact loc_pick hk
 |alloc t=>exact loc_alloc hk
 |box t x=>exact loc_box hk
 |load t x=>exact loc_load hk
 |store t x y=>exact loc_store hk
 |fieldAddr t x i=>exact loc_fieldAddr hk
 |field t x i=>exact loc_field hk
 |indexAddr t x y=>exact loc_indexAddr hk
 |index t x y=>exact loc_index hk
 |extract x i=>exact loc_extract hk
 |binOp op t x y u=>exact loc_bin hk
 |unOp op t x =>
  cases op with
  |not=>exact loc_not hk
  |neg=>exact loc_neg hk
  |_=>exact False.elim hk
 |convert s t x=>exact loc_conv hk
 |build t ps=>exact loc_build hk
 |buildSlice t n ps=>exact loc_buildSlice hk
 |makeFunc fn first captured=>exact loc_makeFunc hk
 |call c=>exact loc_call hk
 |makeSlice t x y=>exact loc_makeSlice hk
 |slice t x lo hi mx=>exact loc_slice hk
 |nilCheck x=>exact loc_nilCheck hk
 |_=>exact False.elim hk
theorem rdL_mn{t:TypeId}{x:Operand}{v:AV}{c:Nat}(h:c∈mnO ⟨d,.load t x,ty,pos,af,gd⟩ e):c∈rdL ⟨d,.load t x,ty,pos,af,gd⟩ e b v:=by
 cases v<;>simp only [rdL,rdO,passes,cond_false]<;>first|exact h|exact List.mem_append_left _ h
theorem rdL_ob{t:TypeId}{x:Operand}{v:AV}{c:Nat}(hv:∀i n,v ≠ .gs i n)(h:c∈rdO ⟨d,.load t x,ty,pos,af,gd⟩ e b):c∈rdL ⟨d,.load t x,ty,pos,af,gd⟩ e b v:=by
 cases v<;>simp only [rdL]<;>first|exact h|exact absurd rfl (hv _ _)
theorem loadO_loc2{ti:TI}{cs:List Cell}{b:Bxs}{k:AV→Bxs→Prop}(hk:loadO ti cs b k):∃v f,k v f∧∀(b':Bxs) (k':AV→Bxs→Prop),((∀i n,v ≠ .gs i n)→LocB (obsC cs) b b')→k' v f→loadO ti cs b' k':=by
 unfold loadO at hk
 split at hk
 ·rename_i n hn
  split at hk
  ·rename_i l hl
   obtain ⟨cs',f,h1,h2⟩:=obK_loc hk
   refine ⟨_,_,h1,λb' k' hB h=>?_⟩
   unfold loadO
   simp only [hn,hl]
   exact h2 b' _ (λi hi=>hB (λ_ _ h=>by cases h) i (obsC_take hl i hi)) h
  ·cases hk
 ·rename_i hn
  cases ti<;>(try simp only at hk)<;>first|(cases hk;done)|(simp [rowN] at hn;done)|skip
  all_goals (cases cs with
   |nil=>cases hk
   |cons c r=>exact ⟨_,_,hk,λb' k' hB h=>h⟩)
theorem loc_load2{D:FuncId→List AV→AV→Prop}{t:TypeId}{x:Operand}(hk:aop D τ ⟨d,.load t x,ty,pos,af,gd⟩ e b k):∃v f,k v f∧∀(e':Env) (b':Bxs) (k':AV→Bxs→Prop),ae e' x=ae e x→LocB (rdL ⟨d,.load t x,ty,pos,af,gd⟩ e b v) b b'→k' v f→aop D τ ⟨d,.load t x,ty,pos,af,gd⟩ e' b' k':=by
 unfold aop at hk
 simp only at hk
 split at hk
 case h_1 =>
  rename_i ti i off ht hx
  have hi:∀v,i∈rdL ⟨d,.load t x,ty,pos,af,gd⟩ e b v:=λv=>rdL_mn (by simp [mnO,Op.operands,idsO,hx,idsA])
  split at hk
  ·rename_i cs hb
   cases hr:rdAs ti (dropN off cs) with
   |none=>simp [hr] at hk
   |some v =>
    simp only [hr] at hk
    refine ⟨_,_,hk,λe' b' k' hA hB h=>?_⟩
    have hb':=hB i (hi _)
    unfold aop
    simp only [ht,hA,hx,hb',hb,hr]
    exact h
  ·rename_i cs hb
   cases hr:rdAs ti (dropN off cs) with
   |none=>simp [hr] at hk
   |some v =>
    simp only [hr] at hk
    refine ⟨_,_,hk,λe' b' k' hA hB h=>?_⟩
    have hb':=hB i (hi _)
    unfold aop
    simp only [ht,hA,hx,hb',hb,hr]
    exact h
  ·rename_i cs hb
   obtain ⟨v,f,h1,h2⟩:=loadO_loc2 hk
   refine ⟨_,_,h1,λe' b' k' hA hB h=>?_⟩
   have hb':=hB i (hi _)
   unfold aop
   simp only [ht,hA,hx,hb',hb]
   refine h2 b' k' (λhv j hj=>hB j (rdL_ob hv ?_)) h
   simp only [rdO,passes,cond_false,obsO]
   exact List.mem_append_right _ (List.mem_flatMap.2 ⟨i,by simp [mnO,Op.operands,idsO,hx,idsA],by simp only [obsAt,hb];exact obsC_drop j hj⟩)
  ·cases hk
 case h_2 =>
  rename_i ti cs ht hx
  cases hr:rdAs ti cs with
  |none=>simp [hr] at hk
  |some v =>
   simp only [hr] at hk
   refine ⟨_,_,hk,λe' b' k' hA hB h=>?_⟩
   unfold aop
   simp only [ht,hA,hx,hr]
   exact h
 case h_3 =>
  rename_i ti cs ht hx
  cases hr:rdAs ti cs with
  |none=>simp [hr] at hk
  |some v =>
   simp only [hr] at hk
   refine ⟨_,_,hk,λe' b' k' hA hB h=>?_⟩
   unfold aop
   simp only [ht,hA,hx,hr]
   exact h
 case h_4 =>
  rename_i ti g off ht hx
  split at hk
  ·rename_i kk cs hg
   cases hr:rdAs ti (dropN off cs) with
   |none=>simp [hr] at hk
   |some v =>
    simp only [hr] at hk
    refine ⟨_,_,hk,λe' b' k' hA hB h=>?_⟩
    unfold aop
    simp only [ht,hA,hx,hg,hr]
    exact h
  ·cases hk
 case h_5 =>
  rename_i ti i n j off ht hx
  have hi:∀v,i∈rdL ⟨d,.load t x,ty,pos,af,gd⟩ e b v:=λv=>rdL_mn (by simp [mnO,Op.operands,idsO,hx,idsA])
  split at hk
  ·rename_i T s es hb
   obtain ⟨v,h1,h2⟩:=loc_elem (b:=b) hk
   refine ⟨_,_,h1,λe' b' k' hA hB h=>?_⟩
   have hb':=hB i (hi _)
   unfold aop
   simp only [ht,hA,hx,hb',hb]
   exact h2 k' h
  ·rename_i s es hb
   obtain ⟨v,h1,h2⟩:=loc_elem (b:=b) hk
   refine ⟨_,_,h1,λe' b' k' hA hB h=>?_⟩
   have hb':=hB i (hi _)
   unfold aop
   simp only [ht,hA,hx,hb',hb]
   exact h2 k' h
  ·cases hk
 case h_6=>cases hk
theorem aop_any{o:Oper}(hτ:tabOk P τ=true)(hk:aop (Den P) τ o e b k):∃v f,k v f∧∀{N:Nat} {w0:World} {X0:List Nat} {S:List Bx} {M:MM} {a:Act} {w:World} (e':Env) (b':Bxs),WOk P w0→Sta N w0 X0 S M a w e' b'→(∀x∈o.op.operands.toList,ae e' x=ae e x)→LocB (rdL o e b v) b b'→Good P w0 X0 S M a w o (λv' f'=>v'=v∧f'=f):=by
 obtain ⟨d,op,ty,pos,af,gd⟩:=o
 have old:(∀v,rdL ⟨d,op,ty,pos,af,gd⟩ e b v=rdO ⟨d,op,ty,pos,af,gd⟩ e b)→∃v f,k v f∧∀{N:Nat} {w0:World} {X0:List Nat} {S:List Bx} {M:MM} {a:Act} {w:World} (e':Env) (b':Bxs),WOk P w0→Sta N w0 X0 S M a w e' b'→(∀x∈op.operands.toList,ae e' x=ae e x)→LocB (rdL ⟨d,op,ty,pos,af,gd⟩ e b v) b b'→Good P w0 X0 S M a w ⟨d,op,ty,pos,af,gd⟩ (λv' f'=>v'=v∧f'=f):=by
  intro hrd
  obtain ⟨v,f,h1,h2⟩:=aop_locl hk
  refine ⟨v,f,h1,fun {N w0 X0 S M a w} e' b' hwo h hA hB=>?_⟩
  haveI:WOk P w0:=hwo
  exact aop_good hτ h (h2 e' b' (λv' f'=>v'=v∧f'=f) ⟨hA,by rw [hrd] at hB;exact hB⟩ ⟨rfl,rfl⟩)
 cases op with
 |load t x =>
  obtain ⟨v,f,h1,h2⟩:=loc_load2 hk
  refine ⟨v,f,h1,fun {N w0 X0 S M a w} e' b' hwo h hA hB=>?_⟩
  haveI:WOk P w0:=hwo
  exact aop_good hτ h (h2 e' b' (λv' f'=>v'=v∧f'=f) (hA x (by simp [Op.operands])) hB ⟨rfl,rfl⟩)
 |call c =>
  obtain ⟨callee,xs,ts⟩:=c
  by_cases hlen:callee=.builtin .len
  ·subst hlen
   obtain ⟨vs,hv,hc⟩:=callA hk
   have hta:∀{l:List TypeId},ts.toList=l→ts=l.toArray:=λh=>Array.ext' (by simpa using h)
   have hops:∀{e':Env},(∀x∈(Op.call ⟨.builtin .len,xs,ts⟩).operands.toList,ae e' x=ae e x)→mapO (λx=>ae e' x) xs.toList=some vs:=by
    intro e' hA
    rw [← hv]
    exact mapO_congr λx hx=>hA x (by simp only [Op.operands,Call.operands];simp only [Array.toList_append];exact List.mem_append_right _ hx)
   cases hc with
   |lens s es t e1 s' b1 z h1 h2 h3 h4 hk1 =>
    subst h2
    rw [hta h3] at hops ⊢
    exact ⟨_,_,hk1,λe' b' hwo h hA hB=>call_len (tab_at hτ h4) h (hops hA) (λu hu=>by obtain ⟨A,cap,uss,ha,_⟩:=RepS.of_sl hu.sl_;exact ⟨A,cap,ha⟩) ⟨rfl,rfl⟩⟩
   |lenstr s t h1 h2 h3 h4 hk1 =>
    subst h2
    rw [hta h3] at hops ⊢
    refine ⟨_,_,hk1,λe' b' hwo h hA hB=>?_⟩
    obtain ⟨us,hu,hl,hr⟩:=ops_get h (hops hA)
    obtain ⟨u,rfl⟩:∃u,us=[u]:=by
     match us,hl with
     |[u],_=>exact ⟨u,rfl⟩
    have hue:=(hr 0 u _ rfl rfl).v_
    subst hue
    refine .val h.ms ⟨rfl,rfl⟩ (u:=.int .i64 s.size) ?_ (.d (.c (.v _ rfl)))
    simp [execOp,resolve,invoke,builtin,hu,Builtin.len_,run_underlying (strT (tab_at hτ h4)),goInt]
   |leng i n x s es t e1 s' b1 z h1 h2 h3 h4 h5 h6 h7 hk1 =>
    subst h2
    rw [hta h3] at hops ⊢
    exact ⟨_,_,hk1,λe' b' hwo h hA hB=>call_len (tab_at hτ h6) h (hops hA) (λu hu=>by obtain ⟨A,c,hq⟩:=hu.gs_len;exact ⟨A,c,by rw [hq,h7]⟩) ⟨rfl,rfl⟩⟩
   |lenn t e1 s' b1 z h1 h2 h3 h4 hk1 =>
    subst h2
    rw [hta h3] at hops ⊢
    exact ⟨_,_,hk1,λe' b' hwo h hA hB=>call_len (tab_at hτ h4) h (hops hA) (λu hu=>⟨none,0,hu.v_⟩) ⟨rfl,rfl⟩⟩
   |app0n t T s by_ z i h1=>cases h1
   |appn s es t T by_ z i n h1=>cases h1
   |fn f cap x h1=>cases h1
   |fnw f cap x i r h1=>cases h1
   |fns f cap x i n r h1=>cases h1
   |fnn f cap x r h1=>cases h1
   |app0 s es' t T by_ z i h1=>cases h1
   |app s es es' t T by_ z i n h1=>cases h1
   |app0g s c m es' f t T by_ z i h1=>cases h1
   |appg s c m es es' f t T by_ z i n h1=>cases h1
   |min ki n0 n1 ns r h1=>cases h1
   |max ki n0 n1 ns r h1=>cases h1
  ·refine old λv=>?_
   unfold rdL
   split
   ·rename_i heq;cases heq
   ·rename_i heq;simp only [Op.call.injEq,Call.mk.injEq] at heq;exact absurd heq.1 hlen
   ·rfl
 |_=>exact old λv=>rfl
end
end Go.Sw
namespace Go.Sw
open Go Go.RowKit
set_option linter.unusedVariables false
section
variable {P:Program} [Wld P] [Kp] [Gr] {τ:Tab} {N:Nat} {w0:World} {X0:List Nat} {S:List Bx} {M:MM} {a:Act} {w:World} {e:Env} {b:Bxs}
variable [WOk P w0]
theorem kpFree_ne{t s:Nat}{x:Value}(h:kpFree t=true)(hs:(s,x)∈Kp.l):t≠s:=by
 have:=List.all_eq_true.1 h _ hs
 rintro rfl
 simp at this
theorem df_put{a:Act}{t:Nat}{u:Value}(h:a.defers=[]∧∀t u,(t,u)∈Kp.l→a.tmps.getD t undef=u)(ht:DL N t):(a.put (some t) u).defers=[]∧∀s x,(s,x)∈Kp.l→(a.put (some t) u).tmps.getD s undef=x :=
 ⟨h.1,λs x hs=>by rw [getD_put_other u (kpFree_ne ht.2 hs)];exact h.2 s x hs⟩
theorem Sta.congr(h:Sta N w0 X0 S M a w e b){e':Env}{b':Bxs}(he:∀t,ld t e'=ld t e)(hb:∀i,ld i b'=ld i b):Sta N w0 X0 S M a w e' b' :=
 ⟨h.ms,h.x0,h.sz,h.df,λt v hv=>h.env t v (by rw [← he];exact hv),λi x hx=>h.box i x (by rw [← hb];exact hx)⟩
theorem Conc.congr(h:Conc N w0 X0 e b a w){e':Env}{b':Bxs}(he:∀t,ld t e'=ld t e)(hb:∀i,ld i b'=ld i b):Conc N w0 X0 e' b' a w:=by
 obtain ⟨S,M,h⟩:=h
 exact ⟨S,M,h.congr he hb⟩
theorem ld_cons_self{α:Type}(t:Nat)(v:α)(e:List (Nat × α)):ld t ((t,v) :: e)=some v:=by simp [ld]
theorem ld_cons_ne{α:Type}{t s:Nat}(v:α)(e:List (Nat × α))(h:s≠t):ld t ((s,v) :: e)=ld t e:=by simp [ld,beq_no h]
theorem ld_kill(ids:List Nat):∀(e:Env) (t:Nat),ld t (kill ids e)=(ld t e).map λx=>cond ((idsA x).any λb=>ids.elem b) .any x
 |[],t=>rfl
 |(s,v) :: r,t=>by
  have ih:=ld_kill ids r t
  unfold kill at ih ⊢
  simp only [List.map_cons]
  by_cases hs:s=t
  ·subst hs
   rw [ld_cons_self]
   simp only [Option.map_some]
   cases hc:(idsA v).any λb=>ids.elem b<;>exact ld_cons_self _ _ _
  ·have e1:ld t ((cond ((idsA v).any λb=>ids.elem b) (s,AV.any) (s,v)) :: List.map (λp=>cond ((idsA p.2).any λb=>ids.elem b) (p.1,AV.any) p) r)=ld t (List.map (λp=>cond ((idsA p.2).any λb=>ids.elem b) (p.1,AV.any) p) r):=by
    cases hc:(idsA v).any λb=>ids.elem b<;>exact ld_cons_ne _ _ hs
   rw [e1,ih,ld_cons_ne _ _ hs]
theorem Sta.kill(h:Sta N w0 X0 S M a w e b)(ids:List Nat):Sta N w0 X0 S M a w (kill ids e) b:=by
 refine ⟨h.ms,h.x0,h.sz,h.df,λt v hv=>?_,h.box⟩
 rw [ld_kill] at hv
 cases hx:ld t e with
 |none=>simp [hx] at hv
 |some x =>
  simp only [hx,Option.map_some,Option.some.injEq] at hv
  cases hc:(idsA x).any λb=>ids.elem b with
  |true=>rw [hc] at hv;subst hv;exact .any
  |false=>rw [hc] at hv;subst hv;exact h.env t _ hx
theorem kill_no{ids:List Nat}{t:Nat}{x:AV}(h:ld t (kill ids e)=some x):∀i∈idsA x,i ∉ ids:=by
 intro i hi hm
 rw [ld_kill] at h
 cases hx:ld t e with
 |none=>simp [hx] at h
 |some y =>
  simp only [hx,Option.map_some,Option.some.injEq] at h
  cases hc:(idsA y).any λb=>ids.elem b with
  |true=>rw [hc] at h;subst h;simp [idsA] at hi
  |false =>
   rw [hc] at h
   subst h
   have:=List.any_eq_false.1 hc i hi
   simp [hm] at this
theorem mention_no{ids:List Nat}(hm:mention ids e=false){t:Nat}{x:AV}(h:ld t e=some x):∀i∈idsA x,i ∉ ids:=by
 intro i hi hmi
 have h1:=List.any_eq_false.1 hm _ (ld_mem h)
 simp only [List.any_eq_true,not_exists,not_and] at h1
 exact h1 i hi (by simpa using hmi)
theorem Post.conc(h:Sta N w0 X0 S M a w e b){o:Oper}{v:AV}{f:Bxs}{u:Value}{w':World}(hp:Post w0 X0 S M w (alO o) v f u w')(hd:∀t,o.dst=some t→DL N t)(hno:∀t x,o.dst≠some t→ld t e=some x→∀i∈idsA x,i ∉ alO o)(hnb:∀i x,ld i b=some x→∀c∈obsK x,c ∉ alO o):
 Conc N w0 X0 (apE o v e) (ups f b) (a.put o.dst u) w':=by
 obtain ⟨S',M',h1,h2,h3,h4,h5,h6⟩:=hp
 refine ⟨S',M',h1,h.x0, ?_, ?_,λt x hx=>?_,λi x hx=>?_⟩
 ·cases hq:o.dst with
  |none=>exact h.sz
  |some t=>simp [Act.put,h.sz]
 ·cases hq:o.dst with
  |none=>exact ⟨h.df.1,h.df.2.ext h2⟩
  |some t=>exact ⟨df_put h.df.1 (hd _ hq),h.df.2.ext h2⟩
 ·have old:o.dst≠some t→ld t e=some x→RepV w' (bl S'++X0) M' (a.tmps.getD t undef) x:=λhne hx=>(h.env t x hx).ext h2 λi hi m hm=>h5 i m hm (hno t x hne hx i hi)
  cases hq:o.dst with
  |none =>
   unfold apE at hx
   rw [hq] at hx
   exact old (by rw [hq];simp) hx
  |some s =>
   unfold apE at hx
   rw [hq] at hx
   by_cases hs:s=t
   ·subst hs
    rw [ld_cons_self] at hx
    cases hx
    rw [getD_put_same u h.sz (hd _ hq).1]
    exact h3
   ·rw [ld_cons_ne _ _ hs] at hx
    rw [getD_put_other u hs]
    exact old (by rw [hq];simpa using hs) hx
 ·rcases ld_ups f b i x hx with hh|⟨hh,hx'⟩
  ·exact h6 i x hh
  ·obtain ⟨m,k1,k2⟩:=h.box i x hx'
   exact ⟨m,(h4 i hh).trans k1,k2.ext h2 λc hc mc hmc=>h5 c mc hmc (hnb i x hx' c hc)⟩
theorem mentionB_no{ids:List Nat}:∀{b:Bxs},mentionB ids b=false→∀i x,ld i b=some x→∀c∈obsK x,c ∉ ids
 |[],_,i,x,hx,_,_=>by simp [ld] at hx
 |(s,y) :: r,hm,i,x,hx,c,hc=>by
  have h1:mentionB ids r=false∧∀c∈obsK y,c ∉ ids:=by
   cases y<;>simp only [mentionB,Bool.or_eq_false_iff] at hm<;>first|exact ⟨hm,λc hc=>by simp [obsK] at hc⟩|skip
   refine ⟨hm.2,λc hc hmc=>?_⟩
   have:=List.any_eq_false.1 hm.1 c hc
   simp [hmc] at this
  by_cases hs:s=i
  ·subst hs
   rw [ld_cons_self] at hx
   cases hx
   exact h1.2 c hc
  ·rw [ld_cons_ne _ _ hs] at hx
   exact mentionB_no h1.1 i x hx c hc
theorem NB_get{ids:List Nat}{b:Bxs}{p:Prop}(h:NB ids b p):p∧∀i x,ld i b=some x→∀c∈obsK x,c ∉ ids:=by
 unfold NB at h
 split at h
 ·exact ⟨h,λi x hx c hc=>by simp⟩
 ·split at h
  ·rename_i hm;exact ⟨h,mentionB_no hm⟩
  ·cases h
theorem alO_cases(o:Oper):alO o=[]∨∃t j r,o.dst=some t∧alO o=j :: r:=by
 unfold alO
 cases isNew o.op with
 |false=>exact .inl rfl
 |true =>
  cases o.dst with
  |none=>exact .inl rfl
  |some t =>
   cases isCall o.op with
   |true=>exact .inr ⟨t,_,_,rfl,rfl⟩
   |false=>exact .inr ⟨t,_,_,rfl,rfl⟩
theorem Post.concP(h:Sta N w0 X0 S M a w e b){o:Oper}{v:AV}{f:Bxs}{u:Value}{w':World}(hp:Post w0 X0 S M w (alO o) v f u w')(hd:∀t,o.dst=some t→DL N t)(hnb:∀i x,ld i b=some x→∀c∈obsK x,c ∉ alO o):
 Conc N w0 X0 (putE o v e) (ups f b) (a.put o.dst u) w':=by
 rcases alO_cases o with ha|⟨t,j,r,ht,ha⟩
 ·have:=hp.conc h hd (λt x _ _ i _=>by rw [ha];simp) hnb
  refine this.congr (λs=>?_) (λ_=>rfl)
  unfold putE apE
  cases hq:o.dst with
  |none=>rfl
  |some t=>simp only [ha]
 ·unfold putE
  simp only [ht,ha]
  cases hm:mention (j :: r) e with
  |true =>
   have:=hp.conc (h.kill (j :: r)) hd (λs x _ hx i hi=>by rw [ha];exact kill_no hx i hi) hnb
   unfold apE at this
   simpa only [ht] using this
  |false =>
   have:=hp.conc h hd (λs x _ hx i hi=>by rw [ha];exact mention_no hm hx i hi) hnb
   unfold apE at this
   simpa only [ht] using this
def Stepg(P:Program)(O:List Oper)(o:Oper)(a:Act)(w:World)(K:Act→World→Prop)(Q:Exit→Act→World→Prop):Prop :=
 (Region.wanted o (yielded O.toArray a.tmps)=true→o.wp P a w K Q)∧(Region.wanted o (yielded O.toArray a.tmps)=false→K (a.put o.dst undef) w)
theorem yield_some{O:List Oper}{j t:Nat}{p:Bool}(ho:slotOf O j=some t)(ht:a.tmps.getD t undef=.bool p):yielded O.toArray a.tmps j=some p:=by
 unfold slotOf at ho
 unfold yielded
 cases hq:O[j]? with
 |none=>simp [hq] at ho
 |some o =>
  simp only [hq] at ho
  simp only [List.getElem?_toArray,hq,Option.bind_some,ho]
  cases hx:a.tmps[t]? with
  |none=>simp [Array.getD_eq_getD_getElem?,hx,undef] at ht
  |some u=>simp [Array.getD_eq_getD_getElem?,hx] at ht;simp [ht]
theorem yield_none{O:List Oper}{j t:Nat}(ho:slotOf O j=some t)(ht:a.tmps.getD t undef=undef):yielded O.toArray a.tmps j=none:=by
 unfold slotOf at ho
 unfold yielded
 cases hq:O[j]? with
 |none=>simp [hq]
 |some o =>
  simp only [hq] at ho
  simp only [List.getElem?_toArray,hq,Option.bind_some,ho]
  cases hx:a.tmps[t]? with
  |none=>simp
  |some u=>simp [Array.getD_eq_getD_getElem?,hx] at ht;simp [ht,undef]
theorem Sta.skip(h:Sta N w0 X0 S M a w e b){o:Oper}(hd:∀t,o.dst=some t→DL N t):Sta N w0 X0 S M (a.put o.dst undef) w (apE o .bad e) b:=by
 refine ⟨h.ms,h.x0, ?_, ?_,λt x hx=>?_,h.box⟩
 ·cases hq:o.dst with
  |none=>exact h.sz
  |some t=>simp [Act.put,h.sz]
 ·cases hq:o.dst with
  |none=>exact h.df
  |some t=>exact ⟨df_put h.df.1 (hd _ hq),h.df.2⟩
 ·cases hq:o.dst with
  |none=>unfold apE at hx;rw [hq] at hx;exact h.env t x hx
  |some s =>
   unfold apE at hx
   rw [hq] at hx
   by_cases hs:s=t
   ·subst hs
    rw [ld_cons_self] at hx
    cases hx
    rw [getD_put_same undef h.sz (hd _ hq).1]
    exact .bad rfl
   ·rw [ld_cons_ne _ _ hs] at hx
    rw [getD_put_other undef hs]
    exact h.env t x hx
theorem Sta.skipP(h:Sta N w0 X0 S M a w e b){o:Oper}(hd:∀t,o.dst=some t→DL N t):Conc N w0 X0 (putE o .bad e) b (a.put o.dst undef) w:=by
 rcases alO_cases o with ha|⟨t,j,r,ht,ha⟩
 ·have:=h.skip hd
  refine ⟨S,M,this.congr (λs=>?_) (λ_=>rfl)⟩
  unfold putE apE
  cases hq:o.dst with
  |none=>rfl
  |some t=>simp only [ha]
 ·unfold putE
  simp only [ht,ha]
  cases hm:mention (j :: r) e with
  |true =>
   have:=(h.kill (j :: r)).skip hd
   unfold apE at this
   simp only [ht] at this
   exact ⟨S,M,this⟩
  |false =>
   have:=h.skip hd
   unfold apE at this
   simp only [ht] at this
   exact ⟨S,M,this⟩
theorem ld_over{t:Nat}{x:AV}(h:ld t e=some x):∀s,ld s ((t,x) :: e)=ld s e:=λs=>by
 by_cases hs:t=s
 ·subst hs;rw [ld_cons_self,h]
 ·rw [ld_cons_ne _ _ hs]
theorem aopg_seq{O:List Oper}{o:Oper}{k:Env→Bxs→Prop}(hτ:tabOk P τ=true)(hc:Conc N w0 X0 e b a w)(hd:∀t,o.dst=some t→DL N t)(hk:aopg (Den P) τ O o e b λe v f _=>k (putE o v e) (ups f b))
 {K:Act→World→Prop} {Q:Exit→Act→World→Prop} (hK:∀e b a w,k e b→Conc N w0 X0 e b a w→K a w):Stepg P O o a w K Q:=by
 obtain ⟨S,M,h⟩:=hc
 have run:∀e,Sta N w0 X0 S M a w e b→NB (alO o) b (aop (Den P) τ o e b λv f=>k (putE o v e) (ups f b))→o.wp P a w K Q:=by
  intro e h hk
  obtain ⟨hk,hnb⟩:=NB_get hk
  obtain ⟨v,f,h1,h2⟩:=aop_good hτ h hk
  exact h2.wp λu w' hp=>hK _ _ _ _ h1 (hp.concP h hd hnb)
 have skip:∀e,Sta N w0 X0 S M a w e b→k (putE o .bad e) b→K (a.put o.dst undef) w:=by
  intro e h hk
  exact hK _ _ _ _ hk (h.skipP hd)
 unfold aopg at hk
 cases hg:o.guard with
 |none =>
  simp only [hg] at hk
  exact ⟨λ_=>run e h hk,λhw=>by simp [Region.wanted,hg] at hw⟩
 |some jw =>
  obtain ⟨j,want⟩:=jw
  simp only [hg] at hk
  cases hs:slotOf O j with
  |none=>simp [hs] at hk
  |some t =>
   simp only [hs] at hk
   split at hk
   ·rename_i p hp
    have hy:=yield_some (a:=a) hs ((h.env t _ hp).v_)
    have hbr:(match p == want with
     |true=>NB (alO o) b (aop (Den P) τ o ((t,.bool p) :: e) b λv f=>k (putE o v ((t,.bool p) :: e)) (ups f b))
     |false=>k (putE o .bad ((t,.bool p) :: e)) (ups [] b)):=by
     cases p
     ·exact hk.f rfl
     ·exact hk.t rfl
    have h':=h.congr (ld_over hp) (λ_=>rfl)
    cases hpw:p == want with
    |true =>
     simp only [hpw] at hbr
     refine ⟨λ_=>run _ h' hbr,λhw=>?_⟩
     simp only [Region.wanted,hg,hy] at hw
     have:=eq_of_beq hpw
     subst this
     simp at hw
    |false =>
     simp only [hpw] at hbr
     refine ⟨λhw=>?_,λ_=>skip _ h' hbr⟩
     simp only [Region.wanted,hg,hy] at hw
     have:p=want:=by simpa using hw
     subst this
     simp at hpw
   ·rename_i hp
    have hu:a.tmps.getD t undef=undef:=by
     have:=h.env t _ hp
     generalize hz:a.tmps.getD t undef=z at this
     cases this with
     |d hd=>cases hd
     |bad hb=>exact hb
    have hy:=yield_none (a:=a) hs hu
    refine ⟨λhw=>?_,λ_=>skip _ h hk⟩
    simp [Region.wanted,hg,hy] at hw
   ·cases hk
theorem aops_ok{O:List Oper}{Q:Exit→Act→World→Prop}{k:Env→Bxs→Prop}(hτ:tabOk P τ=true)(hQ:∀e b a w,k e b→Conc N w0 X0 e b a w→Q .normal a w):∀{l:List Oper} {e:Env} {b:Bxs} {a:Act} {w:World},dstsLt N l=true→aops (Den P) τ O l e b k→Conc N w0 X0 e b a w→wpList P O.toArray Q l a w
 |[],e,b,a,w,_,hk,hc=>hQ e b a w hk hc
 |o :: r,e,b,a,w,hd,hk,hc=>by
  simp only [dstsLt,List.all_cons,Bool.and_eq_true] at hd
  simp only [aops,putK_eq,upsK_eq] at hk
  have hdo:∀t,o.dst=some t→DL N t:=by
   intro t ht
   have:=hd.1
   rw [ht] at this
   simpa [DL,Nat.blt_eq] using this
  have:=aopg_seq (k:=λe b=>aops (Den P) τ O r e b k) (K:=wpList P O.toArray Q r) (Q:=Q) hτ hc hdo hk (λe b a w hk hc=>aops_ok hτ hQ (l:=r) hd.2 hk hc)
  unfold wpList
  cases hw:Region.wanted o (yielded O.toArray a.tmps) with
  |true=>simp only [if_true];exact .inl (this.1 hw)
  |false=>simp only [Bool.false_eq_true,if_false];exact this.2 hw
end
end Go.Sw
namespace Go.Sw
open Go Go.RowKit
set_option linter.unusedVariables false
section
variable {P:Program} [Wld P] [Kp] [Gr] {τ:Tab}
structure AnyOk (P:Program) [Wld P] (O:List Oper) (o:Oper) (e:Env) (b:Bxs) (v:AV) (f:Bxs) (lg:Lg):Prop where
 wr:lg.wr=f.map (·.1)
 al:∀i∈lg.al,i∈alO o
 ids:∀i∈idsA v,i∈lg.mn∨i∈lg.al
 obs:∀i x,(i,x)∈f→∀c∈obsK x,c∈lg.mn
 go:∀(N:Nat) (w0:World) (X0:List Nat) (a:Act) (w:World) (e':Env) (b':Bxs),WOk P w0→Conc N w0 X0 e' b' a w→(∀t∈slotsO O o,ld t e'=ld t e)→LocB lg.rd b b'→(∀t,o.dst=some t→DL N t) →
  (∀t x,ld t e'=some x→∀i∈idsA x,i ∉ lg.al)→(∀i x,ld i b'=some x→∀c∈obsK x,c ∉ lg.al)→∀(K:Act→World→Prop) (Q:Exit→Act→World→Prop),(∀a' w',Conc N w0 X0 (apE o v e') (ups f b') a' w'→K a' w')→Stepg P O o a w K Q
theorem slot_op{O:List Oper}{o:Oper}{t:Nat}(h:Operand.tmp t∈o.op.operands.toList):t∈slotsO O o:=by
 unfold slotsO
 exact List.mem_append_left _ (List.mem_flatMap.2 ⟨_,h,by simp⟩)
theorem slot_gd{O:List Oper}{o:Oper}{j t:Nat}{want:Bool}(h:o.guard=some (j,want))(hs:slotOf O j=some t):t∈slotsO O o:=by
 unfold slotsO
 exact List.mem_append_right _ (by simp [h,hs])
theorem obsB_mem:∀{f:Bxs} {i:Nat} {x:Bk},(i,x)∈f→∀c∈obsK x,c∈obsB f
 |[],_,_,h,_,_=>by cases h
 |(j,y) :: r,i,x,h,c,hc=>by
  rcases List.mem_cons.1 h with h|h
  ·cases h
   cases y<;>simp only [obsK] at hc<;>first|(cases hc;done)|skip
   simp only [obsB]
   exact List.mem_append_left _ hc
  ·have:=obsB_mem h c hc
   cases y<;>simp only [obsB]<;>first|exact this|exact List.mem_append_right _ this
theorem aopg_any{O:List Oper}{o:Oper}{e:Env}{b:Bxs}{k:Env→AV→Bxs→Lg→Prop}(hτ:tabOk P τ=true)(hk:aopg (Den P) τ O o e b k):∃e₀ v f lg,k e₀ v f lg∧(∀t,ld t e₀=ld t e)∧AnyOk P O o e b v f lg:=by
 have run:∀e₀,(∀t,ld t e₀=ld t e)→NB (alO o) b (aop (Den P) τ o e₀ b λv f=>k e₀ v f (lgOf o e₀ b v f))→(∀(N:Nat) (w0:World) (X0:List Nat) (a:Act) (w:World) (e':Env) (b':Bxs),Conc N w0 X0 e' b' a w→(∀t∈slotsO O o,ld t e'=ld t e)→Region.wanted o (yielded O.toArray a.tmps)=true) →
  ∃e₀ v f lg,k e₀ v f lg∧(∀t,ld t e₀=ld t e)∧AnyOk P O o e b v f lg:=by
  intro e₀ he hk hw
  obtain ⟨hk,_⟩:=NB_get hk
  obtain ⟨v,f,h1,h2⟩:=aop_any hτ hk
  refine ⟨e₀,v,f,_,h1,he,rfl,λi hi=>hi,λi hi=>?_,λi x hx c hc=>List.mem_append_right _ (obsB_mem hx c hc), ?_⟩
  ·simp only [lgOf]
   by_cases hm:i∈alO o
   ·exact .inr hm
   ·exact .inl (List.mem_append_left _ (List.mem_append_right _ (List.mem_filter.2 ⟨hi,by simpa using hm⟩)))
  ·intro N w0 X0 a w e' b' hwo hc hs hB hd hno hnb K Q hK
   haveI:WOk P w0:=hwo
   have hwt:=hw N w0 X0 a w e' b' hc hs
   refine ⟨λ_=>?_,λh=>(by rw [hwt] at h;cases h)⟩
   obtain ⟨S,M,h⟩:=hc
   have hA:∀x∈o.op.operands.toList,ae e' x=ae e₀ x:=by
    intro x hx
    cases x with
    |tmp t=>simp only [ae];rw [hs t (slot_op hx),he]
    |const v=>rfl
    |global g=>rfl
    |func f=>rfl
   obtain ⟨v',f',⟨rfl,rfl⟩,hD⟩:=h2 e' b' hwo h hA hB
   exact hD.wp λu w' hp=>hK _ _ (hp.conc h hd (λt x _ hx=>hno t x hx) hnb)
 have skip:∀e₀,(∀t,ld t e₀=ld t e)→k e₀ .bad [] ⟨[],[],[],[]⟩→(∀(N:Nat) (w0:World) (X0:List Nat) (a:Act) (w:World) (e':Env) (b':Bxs),Conc N w0 X0 e' b' a w→(∀t∈slotsO O o,ld t e'=ld t e)→Region.wanted o (yielded O.toArray a.tmps)=false) →
  ∃e₀ v f lg,k e₀ v f lg∧(∀t,ld t e₀=ld t e)∧AnyOk P O o e b v f lg:=by
  intro e₀ he hk hw
  refine ⟨e₀,_,_,_,hk,he,rfl,λi hi=>(by simp at hi),λi hi=>(by simp [idsA] at hi),λi x hx=>(by cases hx), ?_⟩
  intro N w0 X0 a w e' b' hwo hc hs hB hd hno hnb K Q hK
  have hwt:=hw N w0 X0 a w e' b' hc hs
  refine ⟨λh=>(by rw [hwt] at h;cases h),λ_=>?_⟩
  obtain ⟨S,M,h⟩:=hc
  have hp:Post w0 X0 S M w [] .bad [] undef w:=Post.pure h.ms (.bad rfl)
  refine hK _ _ ⟨S,M,h.ms,h.x0, ?_, ?_,λt x hx=>?_,h.box⟩
  ·cases hq:o.dst with
   |none=>exact h.sz
   |some t=>simp [Act.put,h.sz]
  ·cases hq:o.dst with
   |none=>exact h.df
   |some t=>exact ⟨df_put h.df.1 (hd _ hq),h.df.2⟩
  ·cases hq:o.dst with
   |none=>unfold apE at hx;rw [hq] at hx;exact h.env t x hx
   |some s =>
    unfold apE at hx
    rw [hq] at hx
    by_cases hs:s=t
    ·subst hs
     rw [ld_cons_self] at hx
     cases hx
     rw [getD_put_same undef h.sz (hd _ hq).1]
     exact .bad rfl
    ·rw [ld_cons_ne _ _ hs] at hx
     rw [getD_put_other undef hs]
     exact h.env t x hx
 unfold aopg at hk
 cases hg:o.guard with
 |none =>
  simp only [hg] at hk
  exact run e (λ_=>rfl) hk (λ_ _ _ _ _ _ _ _ _=>by simp [Region.wanted,hg])
 |some jw =>
  obtain ⟨j,want⟩:=jw
  simp only [hg] at hk
  cases hs:slotOf O j with
  |none=>simp [hs] at hk
  |some t =>
   simp only [hs] at hk
   split at hk
   ·rename_i p hp
    have hbr:(match p == want with
     |true=>NB (alO o) b (aop (Den P) τ o ((t,.bool p) :: e) b λv f=>k ((t,.bool p) :: e) v f (lgOf o ((t,.bool p) :: e) b v f))
     |false=>k ((t,.bool p) :: e) .bad [] ⟨[],[],[],[]⟩):=by
     cases p
     ·exact hk.f rfl
     ·exact hk.t rfl
    have hy:∀(N:Nat) (w0:World) (X0:List Nat) (a:Act) (w:World) (e':Env) (b':Bxs),Conc N w0 X0 e' b' a w→(∀t∈slotsO O o,ld t e'=ld t e)→yielded O.toArray a.tmps j=some p:=by
     intro N w0 X0 a w e' b' hc hsl
     obtain ⟨S,M,h⟩:=hc
     exact yield_some hs ((h.env t _ ((hsl t (slot_gd hg hs)).trans hp)).v_)
    cases hpw:p == want with
    |true =>
     simp only [hpw] at hbr
     refine run _ (ld_over hp) hbr (λN w0 X0 a w e' b' hc hsl=>?_)
     simp only [Region.wanted,hg,hy N w0 X0 a w e' b' hc hsl]
     have:=eq_of_beq hpw
     subst this
     simp
    |false =>
     simp only [hpw] at hbr
     refine skip _ (ld_over hp) hbr (λN w0 X0 a w e' b' hc hsl=>?_)
     simp only [Region.wanted,hg,hy N w0 X0 a w e' b' hc hsl]
     cases p<;>cases want<;>first|rfl|cases hpw
   ·rename_i hp
    refine skip e (λ_=>rfl) hk (λN w0 X0 a w e' b' hc hsl=>?_)
    obtain ⟨S,M,h⟩:=hc
    have hu:a.tmps.getD t undef=undef:=by
     have:=h.env t _ ((hsl t (slot_gd hg hs)).trans hp)
     generalize hz:a.tmps.getD t undef=z at this
     cases this with
     |d hd=>cases hd
     |bad hb=>exact hb
    simp [Region.wanted,hg,yield_none (a:=a) hs hu]
   ·cases hk
structure TrE where
 o:Oper
 v:AV
 f:Bxs
 lg:Lg
def FF:List TrE→(Nat→Bool)→Env→Env
 |[],_,e=>e
 |x :: r,ls,e=>FF r (λj=>ls (j+1)) (if ls 0 then apE x.o x.v e else e)
def GG:List TrE→(Nat→Bool)→Bxs→Bxs
 |[],_,b=>b
 |x :: r,ls,b=>GG r (λj=>ls (j+1)) (if ls 0 then ups x.f b else b)
theorem ld_apE_ne{o:Oper}{v:AV}{e:Env}{t:Nat}(h:o.dst≠some t):ld t (apE o v e)=ld t e:=by
 unfold apE
 cases hq:o.dst with
 |none=>rfl
 |some s=>exact ld_cons_ne _ _ (λhs=>h (by rw [hq,hs]))
theorem ld_apE_eq{o:Oper}{v:AV}{e:Env}{t:Nat}(h:o.dst=some t):ld t (apE o v e)=some v:=by
 unfold apE
 simp only [h]
 exact ld_cons_self _ _ _
theorem ld_apE_congr{o:Oper}{v:AV}{e e':Env}{t:Nat}(h:ld t e=ld t e'):ld t (apE o v e)=ld t (apE o v e'):=by
 by_cases hd:o.dst=some t
 ·rw [ld_apE_eq hd,ld_apE_eq hd]
 ·rw [ld_apE_ne hd,ld_apE_ne hd,h]
theorem ld_ups_ne{α:Type}:∀{f:List (Nat × α)} {b:List (Nat × α)} {i:Nat},i ∉ f.map (·.1)→ld i (ups f b)=ld i b
 |[],b,i,_=>rfl
 |(t,x) :: r,b,i,h=>by
  simp only [List.map_cons,List.mem_cons,not_or] at h
  simp only [ups]
  rw [ld_ups_ne h.2,ld_up,if_neg h.1]
theorem ld_ups_in{α:Type}:∀{f:List (Nat × α)} {b b':List (Nat × α)} {i:Nat},i∈f.map (·.1)→ld i (ups f b)=ld i (ups f b')
 |[],b,b',i,h=>by simp at h
 |(t,x) :: r,b,b',i,h=>by
  simp only [ups]
  by_cases hr:i∈r.map (·.1)
  ·exact ld_ups_in hr
  ·have:i=t:=by simp only [List.map_cons,List.mem_cons] at h;rcases h with h|h;exact h;exact absurd h hr
   subst this
   rw [ld_ups_ne hr,ld_ups_ne hr,ld_up,ld_up,if_pos rfl,if_pos rfl]
theorem FF_look{t:Nat}:∀{tr:List TrE} {ls ls':Nat→Bool} {e e':Env},(∀(j:Nat) x,tr[j]?=some x→x.o.dst=some t→ls j=ls' j)→ld t e=ld t e'→ld t (FF tr ls e)=ld t (FF tr ls' e')
 |[],_,_,_,_,_,h=>h
 |x :: r,ls,ls',e,e',hl,h=>by
  simp only [FF]
  refine FF_look (tr:=r) (λj y hy hd=>hl (j+1) y (by simpa using hy) hd) ?_
  by_cases hd:x.o.dst=some t
  ·rw [hl 0 x rfl hd]
   split
   ·exact ld_apE_congr h
   ·exact h
  ·have h1:∀(c:Bool) (e:Env),ld t (if c then apE x.o x.v e else e)=ld t e:=by
    intro c e;split
    ·exact ld_apE_ne hd
    ·rfl
   rw [h1,h1,h]
theorem GG_look{i:Nat}:∀{tr:List TrE} {ls ls':Nat→Bool} {b b':Bxs},(∀(j:Nat) x,tr[j]?=some x→i∈x.f.map (·.1)→ls j=ls' j)→ld i b=ld i b'→ld i (GG tr ls b)=ld i (GG tr ls' b')
 |[],_,_,_,_,_,h=>h
 |x :: r,ls,ls',b,b',hl,h=>by
  simp only [GG]
  refine GG_look (tr:=r) (λj y hy hd=>hl (j+1) y (by simpa using hy) hd) ?_
  by_cases hd:i∈x.f.map (·.1)
  ·rw [hl 0 x rfl hd]
   split
   ·exact ld_ups_in hd
   ·exact h
  ·have h1:∀(c:Bool) (b:Bxs),ld i (if c then ups x.f b else b)=ld i b:=by
    intro c b;split
    ·exact ld_ups_ne hd
    ·rfl
   rw [h1,h1,h]
theorem FF_none:∀{tr:List TrE} {e:Env},FF tr (λ_=>false) e=e
 |[],_=>rfl
 |x :: r,e=>by simp only [FF,Bool.false_eq_true,if_false];exact FF_none
theorem GG_none:∀{tr:List TrE} {b:Bxs},GG tr (λ_=>false) b=b
 |[],_=>rfl
 |x :: r,e=>by simp only [GG,Bool.false_eq_true,if_false];exact GG_none
theorem FF_last{t:Nat}:∀{tr:List TrE} {ls:Nat→Bool} {e:Env} {i:Nat} {x:TrE},tr[i]?=some x→x.o.dst=some t→ls i=true→(∀(j:Nat) y,i<j→tr[j]?=some y→y.o.dst=some t→ls j=false)→ld t (FF tr ls e)=some x.v
 |[],_,_,i,x,h,_,_,_=>by simp at h
 |y :: r,ls,e,0,x,h,hd,hl,hn=>by
  have:y=x:=by simpa using h
  subst this
  simp only [FF,hl,if_true]
  rw [FF_look (ls':=λ_=>false) (e':=apE y.o y.v e) (λj z hz hzd=>hn (j+1) z (by omega) (by simpa using hz) hzd) rfl,FF_none,ld_apE_eq hd]
 |y :: r,ls,e,i+1,x,h,hd,hl,hn=>by
  simp only [FF]
  exact FF_last (by simpa using h) hd hl (λj z hj hz hzd=>hn (j+1) z (by omega) (by simpa using hz) hzd)
theorem GG_last{c:Nat}{b0:Bxs}:∀{tr:List TrE} {ls:Nat→Bool} {b:Bxs} {i:Nat} {x:TrE},tr[i]?=some x→c∈x.f.map (·.1)→ls i=true→(∀(j:Nat) y,i<j→tr[j]?=some y→c∈y.f.map (·.1)→ls j=false)→ld c (GG tr ls b)=ld c (ups x.f b0)
 |[],_,_,i,x,h,_,_,_=>by simp at h
 |y :: r,ls,b,0,x,h,hd,hl,hn=>by
  have:y=x:=by simpa using h
  subst this
  simp only [GG,hl,if_true]
  rw [GG_look (ls':=λ_=>false) (b':=ups y.f b) (λj z hz hzd=>hn (j+1) z (by omega) (by simpa using hz) hzd) rfl,GG_none]
  exact ld_ups_in hd
 |y :: r,ls,b,i+1,x,h,hd,hl,hn=>by
  simp only [GG]
  exact GG_last (by simpa using h) hd hl (λj z hj hz hzd=>hn (j+1) z (by omega) (by simpa using hz) hzd)
theorem FF_add{tr:List TrE}{ls:Nat→Bool}{e:Env}{i:Nat}{x:TrE}(hi:tr[i]?=some x)(hn:∀(j:Nat) y t,i<j→tr[j]?=some y→x.o.dst=some t→y.o.dst=some t→ls j=false)(t:Nat):
 ld t (FF tr (λj=>Nat.beq j i || ls j) e)=ld t (apE x.o x.v (FF tr ls e)):=by
 by_cases hd:x.o.dst=some t
 ·rw [ld_apE_eq hd]
  refine FF_last hi hd (by simp) (λj y hj hy hyd=>?_)
  rw [beq_no (by omega),hn j y t hj hy hd hyd];rfl
 ·rw [ld_apE_ne hd]
  refine FF_look (λj y hy hyd=>?_) rfl
  have:j≠i:=by rintro rfl;rw [hi] at hy;cases hy;exact hd hyd
  rw [beq_no this];rfl
theorem GG_add{tr:List TrE}{ls:Nat→Bool}{b:Bxs}{i:Nat}{x:TrE}(hi:tr[i]?=some x)(hn:∀(j:Nat) y c,i<j→tr[j]?=some y→c∈x.f.map (·.1)→c∈y.f.map (·.1)→ls j=false)(c:Nat):
 ld c (GG tr (λj=>Nat.beq j i || ls j) b)=ld c (ups x.f (GG tr ls b)):=by
 by_cases hd:c∈x.f.map (·.1)
 ·refine GG_last hi hd (by simp) (λj y hj hy hyd=>?_)
  rw [beq_no (by omega),hn j y c hj hy hd hyd];rfl
 ·rw [ld_ups_ne hd]
  refine GG_look (λj y hy hyd=>?_) rfl
  have:j≠i:=by rintro rfl;rw [hi] at hy;cases hy;exact hd hyd
  rw [beq_no this];rfl
theorem FF_from{t:Nat}{y:AV}:∀{tr:List TrE} {ls:Nat→Bool} {e:Env},ld t (FF tr ls e)=some y→ld t e=some y∨∃(j:Nat) (x:TrE),tr[j]?=some x∧ls j=true∧y=x.v
 |[],_,_,h => .inl h
 |x :: r,ls,e,h=>by
  simp only [FF] at h
  rcases FF_from h with h1|⟨j,z,h1,h2,h3⟩
  ·split at h1
   ·rename_i hl
    by_cases hd:x.o.dst=some t
    ·rw [ld_apE_eq hd] at h1
     cases h1
     exact .inr ⟨0,x,rfl,hl,rfl⟩
    ·rw [ld_apE_ne hd] at h1
     exact .inl h1
   ·exact .inl h1
  ·exact .inr ⟨j+1,z,by simpa using h1,h2,h3⟩
theorem ups_from{α:Type}{i:Nat}{y:α}:∀{f l:List (Nat × α)},ld i (ups f l)=some y→(i,y)∈f∨ld i l=some y:=fun {f l} h=>by
 rcases ld_ups f l i y h with h1|⟨_,h1⟩
 ·exact .inl h1
 ·exact .inr h1
theorem GG_from{i:Nat}{y:Bk}:∀{tr:List TrE} {ls:Nat→Bool} {b:Bxs},ld i (GG tr ls b)=some y→ld i b=some y∨∃(j:Nat) (x:TrE),tr[j]?=some x∧ls j=true∧(i,y)∈x.f
 |[],_,_,h => .inl h
 |x :: r,ls,b,h=>by
  simp only [GG] at h
  rcases GG_from h with h1|⟨j,z,h1,h2,h3⟩
  ·split at h1
   ·rename_i hl
    rcases ups_from h1 with h2|h2
    ·exact .inr ⟨0,x,rfl,hl,h2⟩
    ·exact .inl h2
   ·exact .inl h1
  ·exact .inr ⟨j+1,z,by simpa using h1,h2,h3⟩
theorem aopl_path{O:List Oper}(hτ:tabOk P τ=true):∀{l:List Oper} {e:Env} {b:Bxs} {lg0:List Lg} {k:Env→Bxs→List Lg→Prop},aopl (Den P) τ O l e b lg0 k →
 ∃(tr:List TrE) (eN:Env) (bN:Bxs),tr.map (·.o)=l∧k eN bN (lg0++tr.map (·.lg))∧(∀t,ld t eN=ld t (FF tr (λ_=>true) e))∧(∀i,ld i bN=ld i (GG tr (λ_=>true) b)) ∧
  ∀(i:Nat) x,tr[i]?=some x→AnyOk P O x.o (FF tr (λj=>decide (j<i)) e) (GG tr (λj=>decide (j<i)) b) x.v x.f x.lg
 |[],e,b,lg0,k,hk=>⟨[],e,b,rfl,by simp only [aopl] at hk;simpa using hk,λ_=>rfl,λ_=>rfl,λi x h=>by simp at h⟩
 |o :: r,e,b,lg0,k,hk=>by
  simp only [aopl,apK_eq,upsK_eq] at hk
  obtain ⟨e₀,v,f,lg,h1,he,hA⟩:=aopg_any hτ hk
  obtain ⟨tr,eN,bN,q1,q2,q3,q4,q5⟩:=aopl_path hτ h1
  have hap:∀t,ld t (apE o v e₀)=ld t (apE o v e):=λt=>ld_apE_congr (he t)
  refine ⟨⟨o,v,f,lg⟩ :: tr,eN,bN,by simp [q1],by simpa using q2,λt=>?_,λi=>?_,λi x hx=>?_⟩
  ·rw [q3]
   simp only [FF,if_true]
   exact FF_look (λ_ _ _ _=>rfl) (hap t)
  ·rw [q4]
   simp only [GG,if_true]
  ·cases i with
   |zero =>
    have:(⟨o,v,f,lg⟩:TrE)=x:=by simpa using hx
    subst this
    simp only [FF,GG,Nat.not_lt_zero,decide_false,Bool.false_eq_true,if_false]
    rw [FF_none,GG_none]
    exact hA
   |succ i =>
    have h5:=q5 i x (by simpa using hx)
    have e1:(λj=>decide (j+1<i+1))=λj=>decide (j<i):=by funext j;simp
    simp only [FF,GG,Nat.zero_lt_succ,decide_true,if_true,e1]
    refine ⟨h5.wr,h5.al,h5.ids,h5.obs,λN w0 X0 a w e' b' hwo hc hs hB hd hno hnb K Q hK=>h5.go N w0 X0 a w e' b' hwo hc (λt ht=>(hs t ht).trans (FF_look (λ_ _ _ _=>rfl) (hap t).symm)) hB hd hno hnb K Q hK⟩
end
end Go.Sw
namespace Go.Sw
open Go Go.RowKit
set_option linter.unusedVariables false
def ahF(o:Oper)(acc:List Nat):Nat:=o.after.toList.foldl (λm e=>cond (Region.binds .any e) (m ||| 2 ^ e.on ||| acc.getD e.on 0) m) 0
theorem aheads_at:∀(O:List Oper) (acc:List Nat),(∃rest,aheads O acc=acc++rest)∧∀(j:Nat) o,O[j]?=some o→∃acc',acc'.length=acc.length+j∧(∃rest,aheads O acc=acc'++rest)∧(aheads O acc).getD (acc.length+j) 0=ahF o acc'
 |[],acc=>⟨⟨[],by simp [aheads]⟩,λj o h=>by simp at h⟩
 |x :: r,acc=>by
  obtain ⟨⟨rest,h1⟩,h2⟩:=aheads_at r (acc++[ahF x acc])
  have hx:aheads (x :: r) acc=aheads r (acc++[ahF x acc]):=rfl
  refine ⟨⟨ahF x acc :: rest,by rw [hx,h1];simp⟩,λj o hj=>?_⟩
  cases j with
  |zero =>
   have:x=o:=by simpa using hj
   subst this
   refine ⟨acc,by simp,⟨ahF x acc :: rest,by rw [hx,h1];simp⟩, ?_⟩
   rw [hx,h1]
   simp [List.getD]
  |succ j =>
   obtain ⟨acc',q1,q2,q3⟩:=h2 j o (by simpa using hj)
   refine ⟨acc',by simp at q1;omega,by rw [hx];exact q2, ?_⟩
   rw [hx,← q3]
   congr 1
   simp;omega
theorem testBit_fold(acc:List Nat)(i:Nat):∀(l:List Edge) (m:Nat),Nat.testBit (l.foldl (λm e=>cond (Region.binds .any e) (m ||| 2 ^ e.on ||| acc.getD e.on 0) m) m) i=true →
 Nat.testBit m i=true∨∃e∈l,Region.binds .any e=true∧(e.on=i∨Nat.testBit (acc.getD e.on 0) i=true)
 |[],m,h => .inl h
 |e :: r,m,h=>by
  simp only [List.foldl_cons] at h
  rcases testBit_fold acc i r _ h with h1|⟨e',he',hb,h1⟩
  ·cases hb:Region.binds .any e with
   |false=>rw [hb] at h1;exact .inl h1
   |true =>
    rw [hb] at h1
    simp only [cond_true,Nat.testBit_or,Bool.or_eq_true] at h1
    rcases h1 with (h1|h1)|h1
    ·exact .inl h1
    ·rw [Nat.testBit_two_pow] at h1
     exact .inr ⟨e,by simp,hb,.inl (by simpa using h1)⟩
    ·exact .inr ⟨e,by simp,hb,.inr h1⟩
  ·exact .inr ⟨e',by simp [he'],hb,h1⟩
def DC(O:List Oper)(ls:Nat→Bool):Prop:=∀(j:Nat) (o:Oper),O[j]?=some o→ls j=true→∀e∈o.after,Region.binds .any e=true→ls e.on=true
theorem ahead_done{O:List Oper}{ls:Nat→Bool}(hc:DC O ls):∀(j:Nat) (o:Oper),O[j]?=some o→(∀e∈o.after,Region.binds .any e=true→ls e.on=true)→∀i,Nat.testBit ((aheads O []).getD j 0) i=true→ls i=true:=by
 intro j
 induction j using Nat.strongRecOn with
 |_ j ih =>
  intro o ho hr i hi
  obtain ⟨acc',q1,⟨rest,q2⟩,q3⟩:=(aheads_at O []).2 j o ho
  simp only [List.length_nil,Nat.zero_add] at q1 q3
  rw [q3] at hi
  rcases testBit_fold acc' i _ 0 hi with h|⟨e,he,hb,h⟩
  ·simp at h
  ·have hon:=hr e (by simpa using he) hb
   rcases h with h|h
   ·rw [← h];exact hon
   ·have hlt:e.on<j:=by
     rcases Nat.lt_or_ge e.on j with h1|h1
     ·exact h1
     ·have:acc'.getD e.on 0=0:=by simp [List.getD,List.getElem?_eq_none (show acc'.length≤e.on by omega)]
      rw [this] at h;simp at h
    have hsame:(aheads O []).getD e.on 0=acc'.getD e.on 0:=by
     rw [q2]
     simp only [List.getD,List.getElem?_append_left (show e.on<acc'.length by omega)]
    rw [← hsame] at h
    have hO:e.on<O.length:=by have:=(List.getElem?_eq_some_iff.1 ho).1;omega
    exact ih e.on hlt O[e.on] (List.getElem?_eq_getElem hO) (hc e.on _ (List.getElem?_eq_getElem hO) hon) i h
section
variable {P:Program} [Wld P] [Kp] [Gr] {τ:Tab} {Q:Exit→Act→World→Prop}
theorem Conc.drew{N:Nat}{w0:World}{X0:List Nat}{e:Env}{b:Bxs}{a:Act}{w:World}(h:Conc N w0 X0 e b a w):Conc N w0 X0 e b a w.drew:=by
 obtain ⟨S,M,h⟩:=h
 have hx:=Ext.drew w (bl S++X0)
 exact ⟨S,M,⟨h.ms.st.drew,h.ms.gh.kept (λ_ _ _ h=>h),h.ms.inS,h.ms.inj⟩,h.x0,h.sz,⟨h.df.1,h.df.2.ext hx⟩,λt v hv=>(h.env t v hv).ext hx λi _ m hm=>⟨m,hm,Comp.refl m⟩,λi x hx'=>by
  obtain ⟨m,h1,h2⟩:=h.box i x hx'
  exact ⟨m,h1,h2.ext0 hx⟩⟩
theorem als_mem{O:List Oper}{i:Nat}{o:Oper}(ho:O[i]?=some o){c:Nat}(hc:c∈alO o):c∈als O:=List.mem_flatMap.2 ⟨o,List.mem_of_getElem? ho,hc⟩
theorem prep_no{O:List Oper}{e:Env}{t:Nat}{x:AV}(h:ld t (prep O e)=some x):∀i∈idsA x,i ∉ als O:=by
 unfold prep at h
 cases hm:mention (als O) e with
 |true=>rw [hm] at h;exact kill_no h
 |false=>rw [hm] at h;exact mention_no hm h
theorem Conc.prep{N:Nat}{w0:World}{X0:List Nat}{e:Env}{b:Bxs}{a:Act}{w:World}(h:Conc N w0 X0 e b a w)(O:List Oper):Conc N w0 X0 (prep O e) b a w:=by
 obtain ⟨S,M,h⟩:=h
 unfold Sw.prep
 split
 ·exact ⟨S,M,h.kill _⟩
 ·exact ⟨S,M,h⟩
theorem draw_ok{N:Nat}{w0:World}{X0:List Nat}{e:Env}{b:Bxs}{a:Act}{w:World}{O:List Oper}{id:Nat}{k:Env→Bxs→Prop}(hwo:WOk P w0)(hτ:tabOk P τ=true)(hm:P.follows .mixedOrders=true)(hac:acyc O=true)(hso:slotOrd O=true)(hdl:dstsLt N O=true)
 (hc:Conc N w0 X0 e b a w) (hk:areg (Den P) τ true O e b k) (hQ:∀e b a w,k e b→Conc N w0 X0 e b a w→Q .normal a w):(Code.region id O.toArray true).wp P Q a w:=by
 simp only [areg,prepK_eq] at hk
 obtain ⟨hk,hnB⟩:=NB_get hk
 obtain ⟨tr,eN,bN,q1,⟨q2,q2'⟩,q3,q4,q5⟩:=aopl_path hτ hk
 simp only [List.nil_append] at q2
 have hlen:tr.length=O.length:=by rw [← q1];simp
 have hat:∀{i:Nat} {o:Oper},O[i]?=some o→∃x,tr[i]?=some x∧x.o=o:=by
  intro i o ho
  rw [← q1,List.getElem?_map] at ho
  cases hx:tr[i]? with
  |none=>simp [hx] at ho
  |some x=>simp [hx] at ho;exact ⟨x,rfl,ho⟩
 have hat':∀{i:Nat} {x:TrE},tr[i]?=some x→O[i]?=some x.o:=by
  intro i x hx
  rw [← q1,List.getElem?_map,hx];rfl
 have hdst:∀{i:Nat} {o:Oper},O[i]?=some o→∀t,o.dst=some t→DL N t:=by
  intro i o ho t ht
  have:=List.all_eq_true.1 hdl o (List.mem_of_getElem? ho)
  rw [ht] at this
  simpa [DL,Nat.blt_eq] using this
 have pairS:∀{i j:Nat} {x y:TrE},i<j→tr[i]?=some x→tr[j]?=some y→Nat.testBit ((aheads O []).getD j 0) i=true ∨
  ((∀t,x.o.dst=some t→t ∉ slotsO O y.o∧y.o.dst≠some t)∧∀t,y.o.dst=some t→t ∉ slotsO O x.o):=by
  intro i j x y hij hx hy
  have hjl:j<O.length:=by rw [← hlen];exact (List.getElem?_eq_some_iff.1 hy).1
  have h1:=List.all_eq_true.1 (List.all_eq_true.1 hso j (by simpa using hjl)) i (by simpa using hij)
  simp only [hat' hx,hat' hy,Bool.or_eq_true,Bool.and_eq_true] at h1
  rcases h1 with h1|⟨h1,h2⟩
  ·exact .inl h1
  ·refine .inr ⟨λt ht=>?_,λt ht=>?_⟩
   ·rw [ht] at h1
    simp only [Bool.and_eq_true,Bool.not_eq_true'] at h1
    refine ⟨λhm=>?_,λhe=>?_⟩
    ·have:=h1.1;simp [hm] at this
    ·have:=h1.2;rw [he] at this;simp at this
   ·rw [ht] at h2
    simp only [Bool.not_eq_true'] at h2
    intro hm
    simp [hm] at h2
 have pairB:∀{i j:Nat} {x y:TrE},i<j→tr[i]?=some x→tr[j]?=some y→(∀c∈y.lg.al,c ∉ x.lg.mn∧c ∉ x.lg.al)∧(Nat.testBit ((aheads O []).getD j 0) i=true ∨
  ((∀c∈x.lg.rd,c ∉ y.lg.wr)∧(∀c∈x.lg.wr,c ∉ y.lg.rd∧c ∉ y.lg.wr)∧∀c∈x.lg.al,c ∉ y.lg.mn)):=by
  intro i j x y hij hx hy
  have hjl:j<(tr.map (·.lg)).length:=by simpa using (List.getElem?_eq_some_iff.1 hy).1
  have h1:=List.all_eq_true.1 (List.all_eq_true.1 q2 j (by simpa using hjl)) i (by simpa using hij)
  simp only [List.getElem?_map,hx,hy,Option.map_some,Bool.and_eq_true,Bool.or_eq_true,Bool.not_eq_true'] at h1
  refine ⟨λc hc=>?_, ?_⟩
  ·have:=List.any_eq_false.1 h1.1 c hc
   simpa using this
  ·rcases h1.2 with h2|h2
   ·exact .inl h2
   ·unfold apart at h2
    simp only [Bool.not_eq_true',Bool.or_eq_false_iff] at h2
    refine .inr ⟨λc hc=>?_,λc hc=>?_,λc hc=>?_⟩
    ·have:=List.any_eq_false.1 h2.1.1 c hc;simpa using this
    ·have:=List.any_eq_false.1 h2.1.2 c hc;simpa using this
    ·have:=List.any_eq_false.1 h2.2 c hc;simpa using this
 refine drawn_inv hm hac (λls a w=>DC O ls∧Conc N w0 X0 (FF tr ls (prep O e)) (GG tr ls b) a w) ⟨λ_ _ _ h=>(by cases h), ?_⟩ ?_ ?_
 ·rw [FF_none,GG_none]
  exact (hc.prep O).drew
 ·rintro ls a w i o ⟨hdc,hcc⟩ ho hi hpre
  obtain ⟨x,hx,rfl⟩:=hat ho
  have hbefore:∀{j:Nat} {y:TrE},j<i→tr[j]?=some y→Nat.testBit ((aheads O []).getD i 0) j=true→ls j=true:=λhji hy hb=>ahead_done hdc i x.o ho hpre _ hb
  have hafter:∀{j:Nat} {y:TrE},i<j→tr[j]?=some y→Nat.testBit ((aheads O []).getD j 0) i=true→ls j=false:=by
   intro j y hij hy hb
   cases hl:ls j with
   |false=>rfl
   |true =>
    have:=ahead_done hdc j y.o (hat' hy) (hdc j y.o (hat' hy) hl) i hb
    rw [hi] at this;cases this
  have hany:=q5 i x hx
  have hgo:=hany.go N w0 X0 a w (FF tr ls (prep O e)) (GG tr ls b) hwo hcc (λt ht=>?_) (λc hcr=>?_) (hdst ho) (λt y hy c hcy hcal=>?_) (λbi y hy c hcy hcal=>?_) (λa' w'=>DC O (λj=>Nat.beq j i || ls j)∧Conc N w0 X0 (FF tr (λj=>Nat.beq j i || ls j) (prep O e)) (GG tr (λj=>Nat.beq j i || ls j) b) a' w') Q (λa' w' hc'=>⟨?_, ?_⟩)
  ·unfold wpOp
   simp only [List.getElem?_toArray,ho]
   cases hw:Region.wanted x.o (yielded O.toArray a.tmps) with
   |true=>simp only [if_true];exact .inl (hgo.1 hw)
   |false=>simp only [Bool.false_eq_true,if_false];exact hgo.2 hw
  ·refine FF_look (λj y hy hyd=>?_) rfl
   rcases Nat.lt_trichotomy j i with hji|rfl|hij
   ·rw [decide_eq_true hji]
    rcases pairS hji hy hx with hb|⟨h1,_⟩
    ·exact hbefore hji hy hb
    ·exact absurd ht (h1 t hyd).1
   ·rw [hi];simp
   ·rw [decide_eq_false (by omega)]
    rcases pairS hij hx hy with hb|⟨_,h2⟩
    ·exact hafter hij hy hb
    ·exact absurd ht (h2 t hyd)
  ·refine GG_look (λj y hy hyd=>?_) rfl
   have hyw:c∈y.lg.wr:=by rw [(q5 j y hy).wr];exact hyd
   rcases Nat.lt_trichotomy j i with hji|rfl|hij
   ·rw [decide_eq_true hji]
    rcases (pairB hji hy hx).2 with hb|⟨_,h2,_⟩
    ·exact hbefore hji hy hb
    ·exact absurd hcr (h2 c hyw).1
   ·rw [hi];simp
   ·rw [decide_eq_false (by omega)]
    rcases (pairB hij hx hy).2 with hb|⟨h1,_,_⟩
    ·exact hafter hij hy hb
    ·exact absurd hyw (h1 c hcr)
  ·rcases FF_from hy with h0|⟨j,z,hz,hlj,rfl⟩
   ·exact prep_no h0 c hcy (als_mem ho (hany.al c hcal))
   ·have hids:=(q5 j z hz).ids c hcy
    rcases Nat.lt_trichotomy j i with hji|rfl|hij
    ·have:=(pairB hji hz hx).1 c hcal
     rcases hids with h1|h1
     ·exact this.1 h1
     ·exact this.2 h1
    ·rw [hi] at hlj;cases hlj
    ·rcases hids with h1|h1
     ·rcases (pairB hij hx hz).2 with hb|⟨_,_,h3⟩
      ·have:=hafter hij hz hb;rw [hlj] at this;cases this
      ·exact h3 c hcal h1
     ·exact ((pairB hij hx hz).1 c h1).2 hcal
  ·rcases GG_from hy with h0|⟨j,z,hz,hlj,hzf⟩
   ·exact hnB bi y h0 c hcy (als_mem ho (hany.al c hcal))
   ·have h1:=(q5 j z hz).obs bi y hzf c hcy
    rcases Nat.lt_trichotomy j i with hji|rfl|hij
    ·exact ((pairB hji hz hx).1 c hcal).1 h1
    ·rw [hi] at hlj;cases hlj
    ·rcases (pairB hij hx hz).2 with hb|⟨_,_,h3⟩
     ·have:=hafter hij hz hb;rw [hlj] at this;cases this
     ·exact h3 c hcal h1
  ·intro j o' ho' hl e' he' hb'
   have hl:(Nat.beq j i || ls j)=true:=hl
   show (Nat.beq e'.on i || ls e'.on)=true
   by_cases hji:j=i
   ·subst hji
    rw [ho] at ho'
    cases ho'
    rw [hpre e' he' hb'];simp
   ·rw [beq_no hji] at hl
    rw [hdc j o' ho' (by simpa using hl) e' he' hb'];simp
  ·refine hc'.congr (λt=>FF_add hx (λj y t hij hy hxd hyd=>?_) t) (λc=>GG_add hx (λj y c hij hy hxc hyc=>?_) c)
   ·rcases pairS hij hx hy with hb|⟨h1,_⟩
    ·exact hafter hij hy hb
    ·exact absurd hyd (h1 t hxd).2
   ·rcases (pairB hij hx hy).2 with hb|⟨_,h2,_⟩
    ·exact hafter hij hy hb
    ·exact absurd (by rw [(q5 j y hy).wr];exact hyc) (h2 c (by rw [hany.wr];exact hxc)).2
 ·rintro ls a w ⟨_,hcc⟩ hall
  refine hQ eN bN a w q2' (hcc.congr (λt=>?_) (λi=>?_))
  ·rw [q3]
   refine FF_look (λj y hy _=>?_) rfl
   rw [hall j (by rw [← hlen];exact (List.getElem?_eq_some_iff.1 hy).1)]
  ·rw [q4]
   refine GG_look (λj y hy _=>?_) rfl
   rw [hall j (by rw [← hlen];exact (List.getElem?_eq_some_iff.1 hy).1)]
end
end Go.Sw
