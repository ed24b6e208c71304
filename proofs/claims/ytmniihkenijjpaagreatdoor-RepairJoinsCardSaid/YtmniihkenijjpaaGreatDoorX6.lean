/-
  Rules of the abstract run, plain laws, and what functions answer, for the law RepairJoins.
  Conditions: none.
-/
import Derived.Test.YtmniihkenijjpaaGreatDoorX5
set_option linter.all false
namespace Go.Sw
open Go Go.RowKit
section
variable {D:FuncId→List AV→AV→Prop} {τ:Tab}
def vW(ids:List Nat)(b b':aN):Prop:=∀i∈ids,ld i b'=ld i b
theorem iK{b:aN}{v:AV}{k:AV→aN→Prop}(hk:jk b v k):∃v' f,k v' f∧∀(b':aN) (k':AV→aN→Prop),vW (dG v) b b'→k' v' f→jk b' v k':=by
 unfold jk at hk;split at hk
 ·exact⟨_,_,hk,λb' k' _ h=>h⟩
 ·rename_i x hn;refine⟨_,_,hk,λb' k' _ h=>?_⟩;unfold jk
  split<;>first
   |(rename_i heq;cases heq;exact absurd rfl hn)|(rename_i heq;cases heq;exact h)|(rename_i heq;cases heq;done)|simp_all
 ·exact⟨_,_,hk,λb' k' _ h=>h⟩
 ·rename_i i n;split at hk
  ·rename_i T s es hb;refine⟨_,_,hk.k,λb' k' hB h=>?_⟩;unfold jk;simp only[hB i (by simp[dG]),hb];exact⟨hk.p,h⟩
  ·rename_i s es hb;refine⟨_,_,hk.k,λb' k' hB h=>?_⟩;unfold jk;simp only[hB i (by simp[dG]),hb];exact⟨hk.p,h⟩
  ·cases hk
 ·rename_i i o;simp only[sG]at hk;split at hk
  ·rename_i cs hb;refine⟨_,_,hk,λb' k' hB h=>?_⟩;unfold jk;simp only[hB i (by simp[dG]),hb,sG];exact h
  ·rename_i cs hb;refine⟨_,_,hk,λb' k' hB h=>?_⟩;unfold jk;simp only[hB i (by simp[dG]),hb,sG];exact h
  ·cases hk
 ·exact⟨_,_,hk,λb' k' _ h=>h⟩
 ·cases hk
theorem mP{α:Type}:∀(f:List (Nat×α)) {b b':List (Nat×α)} {i:Nat},ld i b'=ld i b→ld i (ups f b')=ld i (ups f b)
 |[],b,b',i,h=>h
 |(t,x)::r,b,b',i,h=>by
  refine mP r ?_;rw[oC,oC,h]
theorem kW:∀{vs:List AV} {b:aN} {k:List AV→aN→Prop},jR vs b k→∃vs' f,k vs' f∧∀(b':aN) (k':List AV→aN→Prop),vW (vs.flatMap dG) b b'→k' vs' f→jR vs b' k'
 |[],b,k,hk=>⟨_,_,hk,λb' k' _ h=>h⟩
 |v::r,b,k,hk=>by
  obtain⟨v',f,h1,h2⟩:=iK hk;obtain⟨vs',g,h3,h4⟩:=kW h1;refine⟨_,_,h3,λb' k' hB hk'=>h2 b' _ (λi hi=>hB i (by simp[hi])) (h4 _ _ (λi hi=>mP f (hB i (by rw[Np];exact qC _ hi))) hk')⟩
theorem qU{e:Env}:∀{ps:List (Nat×Operand)} {b:aN} {k:List (Nat×List Cell)→aN→Prop},oI e ps b k→∃vs' f,k vs' f∧∀(e':Env) (b':aN) (k':List (Nat×List Cell)→aN→Prop),(∀p∈ps,ae e' p.2=ae e p.2)→vW (ps.flatMap λp=>jy e p.2) b b'→k' vs' f→oI e' ps b' k'
 |[],b,k,hk=>⟨_,_,hk,λe' b' k' _ _ h=>h⟩
 |(j,x)::r,b,k,hk=>by
  simp only[oI]at hk;cases hx:ae e x with
  |none=>simp[hx]at hk
  |some v =>
   simp only[hx]at hk;obtain⟨v',f,h1,h2⟩:=iK hk;obtain⟨vs',g,h3,h4⟩:=qU h1;refine⟨_,_,h3,λe' b' k' hE hB hk'=>?_⟩;have hx':ae e' x=some v:=(hE (j,x) (by simp)).trans hx;simp only[oI,hx'];refine h2 b' _ (λi hi=>hB i ?_) (h4 e' _ _ (λp hp=>hE p (by simp[hp])) (λi hi=>mP f (hB i ?_)) hk')
   ·rw[Np];exact xW _ (by simp only[jy,hx];exact hi)
   ·rw[Np];exact qC _ hi
theorem Qs{v:AV}{b:aN}{k:List Cell→Prop}(hk:wX b v k):∃cs,k cs∧∀(b':aN) (k':List Cell→Prop),vW (dG v) b b'→k' cs→wX b' v k':=by
 unfold wX at hk;split at hk
 ·exact⟨_,hk,λb' k' _ h=>by unfold wX;exact h⟩
 ·rename_i c hne;refine⟨_,hk,λb' k' _ h=>?_⟩;unfold wX;split
  ·rename_i heq;cases heq;exact(hne rfl).elim
  ·rename_i heq;cases heq;exact h
  ·rename_i heq;cases heq
  ·rename_i heq;cases heq
  ·exfalso;simp_all
 ·exact⟨_,hk,λb' k' _ h=>by unfold wX;exact h⟩
 ·rename_i c n;split at hk
  ·rename_i m hm;refine⟨_,hk.k,λb' k' hB h=>?_⟩
   have:rM c b'=some m:=by
    have hb:=hB c (by simp[dG]);unfold rM at hm ⊢;rw[hb];exact hm
   unfold wX;simp only[this];exact⟨hk.p,h⟩
  ·cases hk
 ·cases hk
theorem BK{e:Env}:∀{ps:List (Nat×Operand)} {b:aN} {k:List (Nat×List Cell)→Prop},qg e b ps k→∃vs',k vs'∧∀(e':Env) (b':aN) (k':List (Nat×List Cell)→Prop),(∀p∈ps,ae e' p.2=ae e p.2)→vW (ps.flatMap λp=>jy e p.2) b b'→k' vs'→qg e' b' ps k'
 |[],b,k,hk=>⟨_,hk,λe' b' k' _ _ h=>h⟩
 |(j,x)::r,b,k,hk=>by
  simp only[qg]at hk;cases hx:ae e x with
  |none=>simp[hx]at hk
  |some v =>
   simp only[hx]at hk;obtain⟨cs,h1,h2⟩:=Qs hk;obtain⟨vs',h3,h4⟩:=BK h1;refine⟨_,h3,λe' b' k' hE hB hk'=>?_⟩;have hx':ae e' x=some v:=(hE (j,x) (by simp)).trans hx;simp only[qg,hx'];refine h2 b' _ (λi hi=>hB i ?_) (h4 e' b' _ (λp hp=>hE p (by simp[hp])) (λi hi=>hB i ?_) hk')
   ·rw[Np];exact xW _ (by simp only[jy,hx];exact hi)
   ·rw[Np];exact qC _ hi
theorem BQ{e:Env}:∀{l:List Operand} {vs:List AV},jd (λx=>ae e x) l=some vs→vs.flatMap dG=l.flatMap (jy e)
 |[],vs,h=>by simp[jd]at h;subst h;rfl
 |x::l,vs,h=>by
  simp only[jd]at h;cases hx:ae e x with
  |none=>simp[hx]at h
  |some y =>
   cases hq:jd (λx=>ae e x) l with
   |none=>simp[hx,hq]at h
   |some q =>
    simp[hx,hq]at h;subst h;rw[Np,Np,BQ hq];simp only[jy,hx]
theorem pY{α β:Type}{f g:α→Option β}:∀{l:List α},(∀x∈l,f x=g x)→jd f l=jd g l
 |[],_=>rfl
 |x::r,h=>by simp only[jd,h x (by simp),pY (l:=r) (λy hy=>h y (by simp[hy]))]
structure Alike (o:Oper) (e:Env) (b:aN) (e':Env) (b':aN):Prop where
 op:∀x∈o.op.operands.toList,ae e' x=ae e x
 bx:vW (qX o e b) b b'
def lY(D:FuncId→List AV→AV→Prop)(τ:Tab)(o:Oper)(e:Env)(b:aN)(k:AV→aN→Prop):Prop:=∃v f,k v f∧∀(e':Env) (b':aN) (k':AV→aN→Prop),Alike o e b e' b'→k' v f→bJ D τ o e' b' k'
variable {d:Option Nat} {ty:TypeId} {pos:String} {af:Array Edge} {gd:Option (Nat × Bool)} {k:AV→aN→Prop} {e:Env} {b:aN}
theorem Vu{x:Operand}(hk:bJ D τ ⟨d,.move x,ty,pos,af,gd⟩ e b k):lY D τ ⟨d,.move x,ty,pos,af,gd⟩ e b k:=by
 unfold bJ at hk;cases hx:ae e x with
 |none=>simp[hx]at hk
 |some v =>
  simp only[hx]at hk;refine⟨_,_,hk,λe' b' k' hA h=>?_⟩;unfold bJ;simp only[hA.op x (by simp[Op.operands]),hx];exact h
theorem Ld{x:Operand}(hk:bJ D τ ⟨d,.assign x,ty,pos,af,gd⟩ e b k):lY D τ ⟨d,.assign x,ty,pos,af,gd⟩ e b k:=by
 unfold bJ at hk;simp only at hk;split at hk
 ·rename_i i T s hn;refine⟨_,_,hk,λe' b' k' hA h=>?_⟩;unfold bJ;simp only[hn];exact h
 rename_i hn;cases hx:ae e x with
 |none=>simp[hx]at hk
 |some v =>
  simp only[hx]at hk;refine⟨_,_,hk,λe' b' k' hA h=>?_⟩;unfold bJ;simp only[hn,hA.op x (by simp[Op.operands]),hx];exact h
theorem Tt{x y z:Operand}(hk:bJ D τ ⟨d,.pick x y z,ty,pos,af,gd⟩ e b k):lY D τ ⟨d,.pick x y z,ty,pos,af,gd⟩ e b k:=by
 unfold bJ at hk;simp only at hk;split at hk
 ·rename_i p hx;have hb:(match ae e (cond p y z)with|some v=>k v []|none=>False):=by cases p<;>first|exact hk.t rfl|exact hk.f rfl
  cases hq:ae e (cond p y z)with
  |none=>simp[hq]at hb
  |some v =>
   simp only[hq]at hb;refine⟨_,_,hb,λe' b' k' hA h=>?_⟩;unfold bJ;simp only[hA.op x (by simp[Op.operands]),hx];refine⟨λh1=>?_,λh1=>?_⟩<;>subst h1
   ·have:ae e' y=ae e y:=hA.op y (by simp[Op.operands]);simp only[cond_true]at hq ⊢;rw[this,hq];exact h
   ·have:ae e' z=ae e z:=hA.op z (by simp[Op.operands]);simp only[cond_false]at hq ⊢;rw[this,hq];exact h
 ·cases hk
theorem Rx{t:TypeId}(hk:bJ D τ ⟨d,.alloc t,ty,pos,af,gd⟩ e b k):lY D τ ⟨d,.alloc t,ty,pos,af,gd⟩ e b k:=by
 unfold bJ at hk;simp only at hk;split at hk
 ·rename_i ti i h1;split at hk
  ·rename_i hty;refine⟨_,_,hk,λe' b' k' hA h=>?_⟩;unfold bJ;simp only[h1,hty];exact h
  ·cases hk
 ·cases hk
theorem aaf{t:TypeId}{x:Operand}(hk:bJ D τ ⟨d,.box t x,ty,pos,af,gd⟩ e b k):lY D τ ⟨d,.box t x,ty,pos,af,gd⟩ e b k:=by
 unfold bJ at hk;simp only at hk;split at hk
 ·rename_i i v hx;obtain⟨v',f,h1,h2⟩:=iK hk;split at h1
  ·rename_i hf;refine⟨_,_,h1,λe' b' k' hA h=>?_⟩;unfold bJ;simp only[hA.op x (by simp[Op.operands]),hx];refine h2 b' _ (λi hi=>hA.bx i (by simp[qX,passes,jO,rE,Op.operands,jy,hx,hi])) ?_;simp only[hf];exact h
  ·cases h1
 ·cases hk
theorem xG{b:aN}{es:List (List Cell)}{n:Nat}{j:Int}{ti:TI}{off:Nat}(hk:Obl (n=es.length) (Elem es j λcs=>(match jq ti (dX off cs)with|some v=>k v []|none=>False))):
 ∃v,k v []∧∀(k':AV→aN→Prop),k' v []→Obl (n=es.length) (Elem es j λcs=>(match jq ti (dX off cs)with|some v=>k' v []|none=>False)):=by
 obtain⟨hl,⟨j',cs,hj,he,hkk⟩⟩:=hk;cases hr:jq ti (dX off cs)with
 |none=>simp[hr]at hkk
 |some v =>
  simp only[hr]at hkk;exact⟨v,hkk,λk' h=>⟨hl,⟨j',cs,hj,he,by simp only[hr];exact h⟩⟩⟩
theorem qE:∀{cs:List Cell} {b:aN} {k:List Cell→aN→Prop},Hq cs b k→∃cs' f,k cs' f∧∀(b':aN) (k':List Cell→aN→Prop),vW (kJ cs) b b'→k' cs' f→Hq cs b' k'
 |[],b,k,hk=>⟨_,_,hk,λb' k' _ h=>h⟩
 |.ob i n::r,b,k,hk=>by
  simp only[Hq]at hk;obtain⟨v',f,h1,h2⟩:=iK hk;cases v' with
  |c c' =>
   simp only at h1;obtain⟨cs',g,h3,h4⟩:=qE h1;refine⟨_,_,h3,λb' k' hB hk'=>?_⟩;simp only[Hq];exact h2 b' _ (λj hj=>hB j (by simp[dG]at hj;subst hj;simp[kJ])) (h4 _ _ (λj hj=>mP f (hB j (by simp[kJ,hj]))) hk')
  |_=>exact False.elim h1
 |.v u::r,b,k,hk=>by
  simp only[Hq]at hk;obtain⟨cs',g,h3,h4⟩:=qE hk;exact⟨_,_,h3,λb' k' hB hk'=>by simp only[Hq];exact h4 _ _ (λj hj=>hB j (by simpa only[kJ]using hj)) hk'⟩
 |.sl s es::r,b,k,hk=>by
  simp only[Hq]at hk;obtain⟨cs',g,h3,h4⟩:=qE hk;exact⟨_,_,h3,λb' k' hB hk'=>by simp only[Hq];exact h4 _ _ (λj hj=>hB j (by simpa only[kJ]using hj)) hk'⟩
 |.p ps::r,b,k,hk=>by
  simp only[Hq]at hk;obtain⟨cs',g,h3,h4⟩:=qE hk;exact⟨_,_,h3,λb' k' hB hk'=>by simp only[Hq];exact h4 _ _ (λj hj=>hB j (by simpa only[kJ]using hj)) hk'⟩
 |.fn ff ps::r,b,k,hk=>by
  simp only[Hq]at hk;obtain⟨cs',g,h3,h4⟩:=qE hk;exact⟨_,_,h3,λb' k' hB hk'=>by simp only[Hq];exact h4 _ _ (λj hj=>hB j (by simpa only[kJ]using hj)) hk'⟩
theorem yQ:∀{n:Nat} {cs l:List Cell},takeN n cs=some l→∀i∈kJ l,i∈kJ cs
 |0,cs,l,h,i,hi=>by simp[takeN]at h;subst h;simp[kJ]at hi
 |n+1,[],l,h,i,hi=>by simp[takeN]at h
 |n+1,c::cs,l,h,i,hi=>by
  simp only[takeN]at h;cases hq:takeN n cs with
  |none=>simp[hq]at h
  |some q =>
   simp[hq]at h;subst h;have ih:=yQ hq;cases c<;>simp only[kJ,rF]at hi ⊢<;>first|exact ih i hi|(rcases hi with hi|hi;exact .inl hi;exact .inr (ih i hi))
theorem yU:∀{n:Nat} {cs:List Cell},∀i∈kJ (dX n cs),i∈kJ cs
 |0,cs,i,hi=>by simpa[dX]using hi
 |n+1,[],i,hi=>by simp[dX,kJ]at hi
 |n+1,c::cs,i,hi=>by
  have:=yU (n:=n) (cs:=cs) i hi;cases c<;>simp only[kJ,rF]<;>first|exact this|exact .inr this
theorem RN{ti:TI}{cs:List Cell}{b:aN}{k:AV→aN→Prop}(hk:sW ti cs b k):∃v f,k v f∧∀(b':aN) (k':AV→aN→Prop),vW (kJ cs) b b'→k' v f→sW ti cs b' k':=by
 unfold sW at hk;split at hk
 ·rename_i n hn;split at hk
  ·rename_i l hl;obtain⟨cs',f,h1,h2⟩:=qE hk;refine⟨_,_,h1,λb' k' hB h=>?_⟩;unfold sW;simp only[hn,hl];exact h2 b' _ (λi hi=>hB i (yQ hl i hi)) h
  ·cases hk
 ·rename_i hn;cases ti<;>(try simp only at hk)<;>first|(cases hk;done)|(simp[WM]at hn;done)|skip
  all_goals(cases cs with
   |nil=>cases hk
   |cons c r=>exact⟨_,_,hk,λb' k' hB h=>h⟩)
theorem Wh{t:TypeId}{x:Operand}(hk:bJ D τ ⟨d,.load t x,ty,pos,af,gd⟩ e b k):lY D τ ⟨d,.load t x,ty,pos,af,gd⟩ e b k:=by
 unfold bJ at hk;simp only at hk;split at hk
 ·rename_i ti i off ht hx;split at hk
  ·rename_i cs hb;cases hr:jq ti (dX off cs)with
   |none=>simp[hr]at hk
   |some v =>
    simp only[hr]at hk;refine⟨_,_,hk,λe' b' k' hA h=>?_⟩;have hb':=hA.bx i (by simp[qX,passes,jO,rE,Op.operands,jy,hx,dG]);unfold bJ;simp only[ht,hA.op x (by simp[Op.operands]),hx,hb',hb,hr];exact h
  ·rename_i cs hb;cases hr:jq ti (dX off cs)with
   |none=>simp[hr]at hk
   |some v =>
    simp only[hr]at hk;refine⟨_,_,hk,λe' b' k' hA h=>?_⟩;have hb':=hA.bx i (by simp[qX,passes,jO,rE,Op.operands,jy,hx,dG]);unfold bJ;simp only[ht,hA.op x (by simp[Op.operands]),hx,hb',hb,hr];exact h
  ·rename_i cs hb;obtain⟨v,f,h1,h2⟩:=RN hk;refine⟨_,_,h1,λe' b' k' hA h=>?_⟩;have hb':=hA.bx i (by simp[qX,passes,jO,rE,Op.operands,jy,hx,dG]);unfold bJ;simp only[ht,hA.op x (by simp[Op.operands]),hx,hb',hb];refine h2 b' k' (λj hj=>hA.bx j ?_) h;simp only[qX,passes,cond_false,jO];exact qC _ (List.mem_flatMap.2 ⟨i,by simp[rE,Op.operands,jy,hx,dG],by simp only[Tn,hb];exact yU j hj⟩)
  ·cases hk
 ·rename_i ti cs ht hx;cases hr:jq ti cs with
  |none=>simp[hr]at hk
  |some v =>
   simp only[hr]at hk;refine⟨_,_,hk,λe' b' k' hA h=>?_⟩;unfold bJ;simp only[ht,hA.op x (by simp[Op.operands]),hx,hr];exact h
 ·rename_i ti cs ht hx;cases hr:jq ti cs with
  |none=>simp[hr]at hk
  |some v =>
   simp only[hr]at hk;refine⟨_,_,hk,λe' b' k' hA h=>?_⟩;unfold bJ;simp only[ht,hA.op x (by simp[Op.operands]),hx,hr];exact h
 ·rename_i ti g off ht hx;split at hk
  ·rename_i kk cs hg;cases hr:jq ti (dX off cs)with
   |none=>simp[hr]at hk
   |some v =>
    simp only[hr]at hk;refine⟨_,_,hk,λe' b' k' hA h=>?_⟩;unfold bJ;simp only[ht,hA.op x (by simp[Op.operands]),hx,hg,hr];exact h
  ·cases hk
 ·rename_i ti i n j off ht hx;split at hk
  ·rename_i T s es hb;obtain⟨v,h1,h2⟩:=xG (b:=b) hk;refine⟨_,_,h1,λe' b' k' hA h=>?_⟩;have hb':=hA.bx i (by simp[qX,passes,jO,rE,Op.operands,jy,hx,dG]);unfold bJ;simp only[ht,hA.op x (by simp[Op.operands]),hx,hb',hb];exact h2 k' h
  ·rename_i s es hb;obtain⟨v,h1,h2⟩:=xG (b:=b) hk;refine⟨_,_,h1,λe' b' k' hA h=>?_⟩;have hb':=hA.bx i (by simp[qX,passes,jO,rE,Op.operands,jy,hx,dG]);unfold bJ;simp only[ht,hA.op x (by simp[Op.operands]),hx,hb',hb];exact h2 k' h
  ·cases hk
 ·cases hk
theorem Si{t:TypeId}{x y:Operand}(hk:bJ D τ ⟨d,.store t x y,ty,pos,af,gd⟩ e b k):lY D τ ⟨d,.store t x y,ty,pos,af,gd⟩ e b k:=by
 unfold bJ at hk;simp only at hk;split at hk
 ·rename_i ds hag;split at hk
  ·rename_i ti i off ht hx;split at hk
   ·rename_i cs hb;split at hk
    ·rename_i cs' hsz hp;refine⟨_,_,hk,λe' b' k' hA h=>?_⟩;have hb':=hA.bx i (by simp[qX,passes,jO,rE,Op.operands,jy,hx,dG]);unfold bJ;simp only[hA.op x (by simp[Op.operands]),hA.op y (by simp[Op.operands]),hag,ht,hx,hb',hb,hsz,hp];exact h
    ·cases hk
   ·cases hk
  ·cases hk
 rename_i hag;split at hk
 ·rename_i ti i off v ht hx hy
  have old:∀{cs:List Cell} (vo:Bool),(jk b v λv' f=>(match f.any (λp=>Nat.beq p.1 i),szB ti (cellsOf v').length,oO off (cellsOf v') cs with|false,true,some cs'=>k .any (f++[(i,cond vo (.varo cs') (.var cs'))])|_,_,_=>False)) →
   ∃f,k .any f∧∀(b':aN) (k':AV→aN→Prop),vW (dG v) b b'→k' .any f→(jk b' v λv' f=>(match f.any (λp=>Nat.beq p.1 i),szB ti (cellsOf v').length,oO off (cellsOf v') cs with|false,true,some cs'=>k' .any (f++[(i,cond vo (.varo cs') (.var cs'))])|_,_,_=>False)):=by
   intro cs vo hk;obtain⟨v',f,h1,h2⟩:=iK hk;split at h1
   ·rename_i cs' hf hsz hp;refine⟨_,h1,λb' k' hB h=>h2 b' _ hB ?_⟩;simp only[hf,hsz,hp];exact h
   ·exact False.elim h1
  have hlen:∀{e':Env} {b':aN} {c n:Nat},Alike ⟨d,.store t x y,ty,pos,af,gd⟩ e b e' b'→Nh v=some (c,n)→rM c b'=rM c b:=by
   intro e' b' c n hA hg
   have hv:v=.gs c n:=by
    unfold Nh at hg;split at hg
    ·cases hg;rfl
    ·cases hg
   unfold rM;rw[hA.bx c (by subst hv;simp[qX,passes,jO,rE,Op.operands,jy,hy,dG])]
  split at hk
  ·rename_i cs hb;split at hk
   ·rename_i c n ho hsl hgs;split at hk
    ·rename_i ml cs' hl hp;refine⟨_,_,hk.k,λe' b' k' hA h=>?_⟩;have hb':=hA.bx i (by simp[qX,passes,jO,rE,Op.operands,jy,hx,dG]);unfold bJ;have hagv:zG (some v)=none:=by rw[←hy];exact hag
     simp only[hagv,ht,hA.op x (by simp[Op.operands]),hA.op y (by simp[Op.operands]),hx,hy,hb',hb,ho,hsl,hgs,hlen hA hgs,hl,hp];exact⟨hk.p,h⟩
    ·cases hk
   ·rename_i hno;obtain⟨f,h1,h2⟩:=old (cs:=cs) false hk;refine⟨_,_,h1,λe' b' k' hA h=>?_⟩;have hb':=hA.bx i (by simp[qX,passes,jO,rE,Op.operands,jy,hx,dG]);have h3:=h2 b' k' (λc hc=>hA.bx c (by simp[qX,passes,jO,rE,Op.operands,jy,hy,hc])) h;unfold bJ;have hagv:zG (some v)=none:=by rw[←hy];exact hag
    simp only[hagv,ht,hA.op x (by simp[Op.operands]),hA.op y (by simp[Op.operands]),hx,hy,hb',hb]
    first
     |exact h3
     |(split
       ·rename_i c n ho hsl hgs;exact absurd hgs (hno c n ho hsl)
       ·exact h3)
  ·rename_i cs hb;split at hk
   ·rename_i c n hsl hgs;split at hk
    ·rename_i ml cs' hl hp;refine⟨_,_,hk.k,λe' b' k' hA h=>?_⟩;have hb':=hA.bx i (by simp[qX,passes,jO,rE,Op.operands,jy,hx,dG]);unfold bJ;have hagv:zG (some v)=none:=by rw[←hy];exact hag
     simp only[hagv,ht,hA.op x (by simp[Op.operands]),hA.op y (by simp[Op.operands]),hx,hy,hb',hb,hsl,hgs,hlen hA hgs,hl,hp];exact⟨hk.p,h⟩
    ·cases hk
   ·rename_i hno;obtain⟨f,h1,h2⟩:=old (cs:=cs) true hk;refine⟨_,_,h1,λe' b' k' hA h=>?_⟩;have hb':=hA.bx i (by simp[qX,passes,jO,rE,Op.operands,jy,hx,dG]);have h3:=h2 b' k' (λc hc=>hA.bx c (by simp[qX,passes,jO,rE,Op.operands,jy,hy,hc])) h;unfold bJ;have hagv:zG (some v)=none:=by rw[←hy];exact hag
    simp only[hagv,ht,hA.op x (by simp[Op.operands]),hA.op y (by simp[Op.operands]),hx,hy,hb',hb]
    first
     |exact h3
     |(split
       ·rename_i c n hsl hgs;exact absurd hgs (hno c n hsl)
       ·exact h3)
  ·cases hk
 ·rename_i ti i n j off v ht hx hy;split at hk
  ·rename_i T s es hb;obtain⟨v',f,h1,h2⟩:=iK hk;split at h1
   ·obtain⟨hl,⟨j',cs,hj,he,hkk⟩⟩:=h1;split at hkk
    ·rename_i cs' hsz hp;refine⟨_,_,hkk,λe' b' k' hA h=>?_⟩;have hb':=hA.bx i (by simp[qX,passes,jO,rE,Op.operands,jy,hx,dG]);unfold bJ;have hagv:zG (some v)=none:=by rw[←hy];exact hag
     simp only[hagv,ht,hA.op x (by simp[Op.operands]),hA.op y (by simp[Op.operands]),hx,hy,hb',hb];refine h2 b' _ (λc hc=>hA.bx c (by simp[qX,passes,jO,rE,Op.operands,jy,hy,hc])) ?_;refine⟨hl,⟨j',cs,hj,he, ?_⟩⟩;simp only[hsz,hp];exact h
    ·exact False.elim hkk
   ·exact False.elim h1
  ·cases hk
 ·cases hk
theorem DT{t:TypeId}{x:Operand}{i:Nat}(hk:bJ D τ ⟨d,.fieldAddr t x i,ty,pos,af,gd⟩ e b k):lY D τ ⟨d,.fieldAddr t x i,ty,pos,af,gd⟩ e b k:=by
 unfold bJ at hk;simp only at hk;split at hk
 ·rename_i n fs z ht;split at hk
  ·rename_i off s1 s2 j o' hi hx;refine⟨_,_,hk,λe' b' k' hA h=>?_⟩;unfold bJ;simp only[ht,hA.op x (by simp[Op.operands]),hx,hi];exact h
  ·rename_i off s1 s2 c n' j o' hi hx;split at hk
   ·rename_i T s es hb;refine⟨_,_,hk.k,λe' b' k' hA h=>?_⟩;have hb':=hA.bx c (by simp[qX,passes,Op.operands,hx,ac5]);unfold bJ;simp only[ht,hA.op x (by simp[Op.operands]),hx,hi,hb',hb];exact⟨hk.p,h⟩
   ·rename_i s es hb;refine⟨_,_,hk.k,λe' b' k' hA h=>?_⟩;have hb':=hA.bx c (by simp[qX,passes,Op.operands,hx,ac5]);unfold bJ;simp only[ht,hA.op x (by simp[Op.operands]),hx,hi,hb',hb];exact⟨hk.p,h⟩
   ·cases hk
  ·rename_i off s1 s2 cs hi hx;refine⟨_,_,hk,λe' b' k' hA h=>?_⟩;unfold bJ;simp only[ht,hA.op x (by simp[Op.operands]),hx,hi];exact h
  ·rename_i off s1 s2 cs hi hx;refine⟨_,_,hk,λe' b' k' hA h=>?_⟩;unfold bJ;simp only[ht,hA.op x (by simp[Op.operands]),hx,hi];exact h
  ·rename_i off s1 s2 g o' hi hx;refine⟨_,_,hk,λe' b' k' hA h=>?_⟩;unfold bJ;simp only[ht,hA.op x (by simp[Op.operands]),hx,hi];exact h
  ·cases hk
 ·cases hk
theorem Rj{t:TypeId}{x:Operand}{i:Nat}(hk:bJ D τ ⟨d,.field t x i,ty,pos,af,gd⟩ e b k):lY D τ ⟨d,.field t x i,ty,pos,af,gd⟩ e b k:=by
 unfold bJ at hk;simp only at hk;split at hk
 ·rename_i n fs z ht;split at hk
  ·rename_i off s ag cs hi hx;cases hr:takeN s (dX off cs)with
   |none=>simp[hr]at hk
   |some l =>
    simp only[hr]at hk;cases ag with
    |true =>
     refine⟨_,_,hk,λe' b' k' hA h=>?_⟩;unfold bJ;simp only[ht,hA.op x (by simp[Op.operands]),hx,hi,hr];exact h
    |false =>
     cases l with
     |nil=>cases hk
     |cons c r =>
      refine⟨_,_,hk,λe' b' k' hA h=>?_⟩;unfold bJ;simp only[ht,hA.op x (by simp[Op.operands]),hx,hi,hr];exact h
  ·cases hk
 ·cases hk
theorem Dz{t:TypeId}{x y:Operand}(hk:bJ D τ ⟨d,.indexAddr t x y,ty,pos,af,gd⟩ e b k):lY D τ ⟨d,.indexAddr t x y,ty,pos,af,gd⟩ e b k:=by
 unfold bJ at hk;simp only at hk;split at hk
 ·rename_i e1 s by_ z s' es ki i ht hx hy;split at hk
  ·rename_i hs;obtain⟨j,cs,h1,h2,hkk⟩:=hk;refine⟨_,_,hkk,λe' b' k' hA h=>?_⟩;unfold bJ;simp only[ht,hA.op x (by simp[Op.operands]),hA.op y (by simp[Op.operands]),hx,hy,hs];exact⟨j,cs,h1,h2,h⟩
  ·cases hk
 ·rename_i e1 s by_ z c n ki i ht hx hy;split at hk
  ·rename_i T s' es hb;split at hk
   ·rename_i hs;obtain⟨hl,⟨j,cs,h1,h2,hkk⟩⟩:=hk;refine⟨_,_,hkk,λe' b' k' hA h=>?_⟩;have hb':=hA.bx c (by simp[qX,passes,jO,rE,Op.operands,jy,hx,dG]);unfold bJ;simp only[ht,hA.op x (by simp[Op.operands]),hA.op y (by simp[Op.operands]),hx,hy,hb',hb,hs];exact⟨hl,⟨j,cs,h1,h2,h⟩⟩
   ·cases hk
  ·rename_i s' es hb;split at hk
   ·rename_i hs;obtain⟨hl,⟨j,cs,h1,h2,hkk⟩⟩:=hk;refine⟨_,_,hkk,λe' b' k' hA h=>?_⟩;have hb':=hA.bx c (by simp[qX,passes,jO,rE,Op.operands,jy,hx,dG]);unfold bJ;simp only[ht,hA.op x (by simp[Op.operands]),hA.op y (by simp[Op.operands]),hx,hy,hb',hb,hs];exact⟨hl,⟨j,cs,h1,h2,h⟩⟩
   ·cases hk
  ·cases hk
 ·rename_i n s one z c o' ki i ht hx hy;split at hk
  ·rename_i hs;refine⟨_,_,hk,λe' b' k' hA h=>?_⟩;unfold bJ;simp only[ht,hA.op x (by simp[Op.operands]),hA.op y (by simp[Op.operands]),hx,hy,hs];exact h
  ·cases hk
 ·rename_i n s one z g o' ki i ht hx hy;split at hk
  ·rename_i hs;refine⟨_,_,hk,λe' b' k' hA h=>?_⟩;unfold bJ;simp only[ht,hA.op x (by simp[Op.operands]),hA.op y (by simp[Op.operands]),hx,hy,hs];exact h
  ·cases hk
 ·rename_i n s one z cs ki i ht hx hy;split at hk
  ·rename_i hs;refine⟨_,_,hk,λe' b' k' hA h=>?_⟩;unfold bJ;simp only[ht,hA.op x (by simp[Op.operands]),hA.op y (by simp[Op.operands]),hx,hy,hs];exact h
  ·cases hk
 ·rename_i n s one z cs ki i ht hx hy;split at hk
  ·rename_i hs;refine⟨_,_,hk,λe' b' k' hA h=>?_⟩;unfold bJ;simp only[ht,hA.op x (by simp[Op.operands]),hA.op y (by simp[Op.operands]),hx,hy,hs];exact h
  ·cases hk
 ·rename_i n s one z c m j o' ki i ht hx hy;split at hk
  ·rename_i T s' es hs hb;refine⟨_,_,hk.k,λe' b' k' hA h=>?_⟩;have hb':=hA.bx c (by simp[qX,passes,jO,rE,Op.operands,jy,hx,dG]);unfold bJ;simp only[ht,hA.op x (by simp[Op.operands]),hA.op y (by simp[Op.operands]),hx,hy,hs,hb',hb];exact⟨hk.p,h⟩
  ·rename_i s' es hs hb;refine⟨_,_,hk.k,λe' b' k' hA h=>?_⟩;have hb':=hA.bx c (by simp[qX,passes,jO,rE,Op.operands,jy,hx,dG]);unfold bJ;simp only[ht,hA.op x (by simp[Op.operands]),hA.op y (by simp[Op.operands]),hx,hy,hs,hb',hb];exact⟨hk.p,h⟩
  ·cases hk
 ·cases hk
theorem I5{x:Operand}{i:Nat}(hk:bJ D τ ⟨d,.extract x i,ty,pos,af,gd⟩ e b k):lY D τ ⟨d,.extract x i,ty,pos,af,gd⟩ e b k:=by
 unfold bJ at hk;simp only at hk;split at hk
 ·rename_i vs hx;cases hi:vs[i]? with
  |none=>simp[hi]at hk
  |some v =>
   simp only[hi]at hk;refine⟨_,_,hk,λe' b' k' hA h=>?_⟩;unfold bJ;simp only[hA.op x (by simp[Op.operands]),hx,hi];exact h
 ·cases hk
theorem Yl{t:TypeId}{x:Operand}(hk:bJ D τ ⟨d,.unOp .not t x,ty,pos,af,gd⟩ e b k):lY D τ ⟨d,.unOp .not t x,ty,pos,af,gd⟩ e b k:=by
 unfold bJ at hk;simp only at hk;split at hk
 ·rename_i p hx;refine⟨_,_,hk,λe' b' k' hA h=>?_⟩;unfold bJ;simp only[hA.op x (by simp[Op.operands]),hx];exact h
 ·cases hk
theorem Gg{x:Operand}(hk:bJ D τ ⟨d,.nilCheck x,ty,pos,af,gd⟩ e b k):lY D τ ⟨d,.nilCheck x,ty,pos,af,gd⟩ e b k:=by
 unfold bJ at hk;simp only at hk;split at hk
 all_goals first
  |(rename_i hx
    refine⟨_,_,hk,λe' b' k' hA h=>?_⟩;unfold bJ;simp only[hA.op x (by simp[Op.operands]),hx]
    exact h)
  |cases hk
theorem FI{fn:Fn}{first captured:Array Operand}(hk:bJ D τ ⟨d,.makeFunc fn first captured,ty,pos,af,gd⟩ e b k):lY D τ ⟨d,.makeFunc fn first captured,ty,pos,af,gd⟩ e b k:=by
 unfold bJ at hk;simp only at hk;split at hk
 ·rename_i g vs hf hv;obtain⟨a_s,f,h1,h2⟩:=kW hk;split at h1
  ·rename_i cs hcs;refine⟨_,_,h1,λe' b' k' hA h=>?_⟩
   have hv':jd (λx=>ae e' x) captured.toList=some vs:=by
    rw[←hv];exact pY λx hx=>hA.op x (by simp only[Op.operands,Array.toList_append];exact qC _ hx)
   unfold bJ;simp only[hf,hv'];refine h2 b' _ (λi hi=>hA.bx i ?_) (by simp only[hcs];exact h);simp only[qX,passes,cond_false,jO,gq,rE,Op.operands,Array.toList_append];rw[Xc,←BQ hv];exact qC _ hi
  ·cases h1
 ·cases hk
theorem YA{t:TypeId}{x:Operand}(hk:bJ D τ ⟨d,.unOp .neg t x,ty,pos,af,gd⟩ e b k):lY D τ ⟨d,.unOp .neg t x,ty,pos,af,gd⟩ e b k:=by
 unfold bJ at hk;simp only at hk;split at hk
 ·rename_i p q hx;refine⟨_,_,hk,λe' b' k' hA h=>?_⟩;unfold bJ;simp only[hA.op x (by simp[Op.operands]),hx];exact h
 ·cases hk
theorem Wi{src dst:TypeId}{x:Operand}(hk:bJ D τ ⟨d,.convert src dst x,ty,pos,af,gd⟩ e b k):lY D τ ⟨d,.convert src dst x,ty,pos,af,gd⟩ e b k:=by
 unfold bJ at hk;simp only at hk;split at hk
 ·rename_i k0 ki k1 n h1 h2 hx;refine⟨_,_,hk,λe' b' k' hA h=>?_⟩;unfold bJ;simp only[h1,h2,hA.op x (by simp[Op.operands]),hx];exact h
 ·rename_i T s by_ z b0 h1 h2 hx;split at hk
  ·rename_i h3 h4;refine⟨_,_,hk.k,λe' b' k' hA h=>?_⟩;unfold bJ;simp only[h1,h2,hA.op x (by simp[Op.operands]),hx,h3,h4];exact⟨hk.p,h⟩
  ·cases hk
 ·rename_i k0 k1 n h1 h2 hx;refine⟨_,_,hk,λe' b' k' hA h=>?_⟩;unfold bJ;simp only[h1,h2,hA.op x (by simp[Op.operands]),hx];exact h
 ·cases hk
theorem Q8{t:TypeId}{x y:Operand}(hk:bJ D τ ⟨d,.index t x y,ty,pos,af,gd⟩ e b k):lY D τ ⟨d,.index t x y,ty,pos,af,gd⟩ e b k:=by
 unfold bJ at hk;simp only at hk;split at hk
 ·rename_i s ki i h1 hx hy;obtain⟨j,hi,hj,hk⟩:=hk;refine⟨_,_,hk,λe' b' k' hA h=>?_⟩;unfold bJ;simp only[h1,hA.op x (by simp[Op.operands]),hA.op y (by simp[Op.operands]),hx,hy];exact⟨j,hi,hj,h⟩
 ·cases hk
theorem Un{op:BinOp}{x y:AV}{k:AV→Prop}(hk:FP op x y k):∃v,k v∧∀k':AV→Prop,k' v→FP op x y k':=by
 unfold FP at hk
 split at hk<;>first
  |exact False.elim hk|exact⟨_,hk.k,λk' h=>by unfold FP;exact⟨hk.p,h⟩⟩|exact⟨_,hk,λk' h=>by unfold FP;exact h⟩
  |(split at hk<;>first
   |exact False.elim hk
   |(rename_i hd;first
    |exact⟨_,hk.k,λk' h=>by unfold FP;simp only[hd];exact⟨hk.p,h⟩⟩|exact⟨_,hk,λk' h=>by unfold FP;simp only[hd];exact h⟩))
theorem Yu{op:BinOp}{t u:TypeId}{x y:Operand}(hk:bJ D τ ⟨d,.binOp op t x y u,ty,pos,af,gd⟩ e b k):lY D τ ⟨d,.binOp op t x y u,ty,pos,af,gd⟩ e b k:=by
 unfold bJ at hk;simp only at hk;split at hk
 ·rename_i p q hx hy;split at hk
  ·rename_i ht;refine⟨_,_,hk,λe' b' k' hA h=>?_⟩;unfold bJ;simp only[hA.op x (by simp[Op.operands]),hA.op y (by simp[Op.operands]),hx,hy,ht];exact h
  ·rename_i ht;refine⟨_,_,hk,λe' b' k' hA h=>?_⟩;unfold bJ;simp only[hA.op x (by simp[Op.operands]),hA.op y (by simp[Op.operands]),hx,hy,ht];exact h
  ·cases hk
 ·rename_i cs ds hx hy;split at hk
  ·rename_i ks hf;split at hk
   ·rename_i q hq;refine⟨_,_,hk,λe' b' k' hA h=>?_⟩;unfold bJ;simp only[hA.op x (by simp[Op.operands]),hA.op y (by simp[Op.operands]),hx,hy,hf,hq];exact h
   ·cases hk
  ·rename_i ks hf;split at hk
   ·rename_i q hq;refine⟨_,_,hk,λe' b' k' hA h=>?_⟩;unfold bJ;simp only[hA.op x (by simp[Op.operands]),hA.op y (by simp[Op.operands]),hx,hy,hf,hq];exact h
   ·cases hk
  ·cases hk
 ·rename_i p q hn hn2 hx hy;obtain⟨v,h1,h2⟩:=Un hk;refine⟨_,_,h1,λe' b' k' hA h=>?_⟩;unfold bJ;simp only[hA.op x (by simp[Op.operands]),hA.op y (by simp[Op.operands]),hx,hy];exact h2 _ h
 ·cases hk
theorem QU{t:TypeId}{ps:Array (Nat×Operand)}(hk:bJ D τ ⟨d,.build t ps,ty,pos,af,gd⟩ e b k):lY D τ ⟨d,.build t ps,ty,pos,af,gd⟩ e b k:=by
 unfold bJ at hk;simp only at hk;split at hk
 ·rename_i n fs z ht;split at hk
  ·rename_i ho;obtain⟨vs,h1,h2⟩:=BK hk;cases hf:mF fs vs z with
   |none=>simp[hf]at h1
   |some cs =>
    simp only[hf]at h1;refine⟨_,_,h1,λe' b' k' hA h=>?_⟩;unfold bJ;simp only[ht,ho];refine h2 e' b' _ (λp hp=>hA.op p.2 (by simp only[Op.operands];exact fV.2 ⟨p,hp,rfl⟩)) (λi hi=>hA.bx i ?_) (by simp only[hf];exact h);simp only[qX,passes,cond_false,jO,gq,rE,Op.operands];rw[List.flatMap_map];exact hi
  ·rename_i ho;obtain⟨vs,f,h1,h2⟩:=qU hk;cases hf:mF fs vs z with
   |none=>simp[hf]at h1
   |some cs =>
    simp only[hf]at h1;refine⟨_,_,h1,λe' b' k' hA h=>?_⟩;unfold bJ;simp only[ht,ho];refine h2 e' b' _ (λp hp=>hA.op p.2 (by simp only[Op.operands];exact fV.2 ⟨p,hp,rfl⟩)) (λi hi=>hA.bx i ?_) (by simp only[hf];exact h);simp only[qX,passes,cond_false,jO,gq,rE,Op.operands];rw[List.flatMap_map];exact hi
 ·rename_i n s one z ht;obtain⟨vs,f,h1,h2⟩:=qU hk;cases hf:mF (G8 s n 0) vs z with
  |none=>simp[hf]at h1
  |some cs =>
   simp only[hf]at h1;refine⟨_,_,h1,λe' b' k' hA h=>?_⟩;unfold bJ;simp only[ht];refine h2 e' b' _ (λp hp=>hA.op p.2 (by simp only[Op.operands];exact fV.2 ⟨p,hp,rfl⟩)) (λi hi=>hA.bx i ?_) (by simp only[hf];exact h);simp only[qX,passes,cond_false,jO,gq,rE,Op.operands];rw[List.flatMap_map];exact hi
 ·cases hk
theorem Dp{t:TypeId}{n:Nat}{ps:Array (Nat×Operand)}(hk:bJ D τ ⟨d,.buildSlice t n ps,ty,pos,af,gd⟩ e b k):lY D τ ⟨d,.buildSlice t n ps,ty,pos,af,gd⟩ e b k:=by
 unfold bJ at hk;simp only at hk;split at hk
 ·rename_i e1 s by_ z ht ho;obtain⟨vs,f,h1,h2⟩:=qU hk;split at h1
  ·rename_i es hl h3
   have fin:∀{v:AV} {g:aN},(∀{k':AV→aN→Prop},k' v g→(match acf τ||Nat.beq n 0 with
    |true=>(match(generalizing:=false) d with
     |some d=>(match f.any λp=>Nat.beq p.1 d with|false=>k' (.gs d n) (f++[(d,.grow e1 s es)])|true=>False)
     |none=>False)
    |false=>k' (.c (.sl s es)) f))→k v g→lY D τ ⟨d,.buildSlice t n ps,ty,pos,af,gd⟩ e b k:=by
    intro v g hkk hkv;refine⟨_,_,hkv,λe' b' k' hA h=>?_⟩;unfold bJ;simp only[ht,ho];refine h2 e' b' _ (λp hp=>hA.op p.2 (by simp only[Op.operands];exact fV.2 ⟨p,hp,rfl⟩)) (λi hi=>hA.bx i ?_) (by simp only[hl,h3];exact hkk h);simp only[qX,passes,cond_false,jO,gq,rE,Op.operands];rw[List.flatMap_map];exact hi
   split at h1
   ·rename_i hm;split at h1
    ·rename_i i;split at h1
     ·rename_i hf;exact fin (fun {k'} hk'=>by simp only[hm,hf];exact hk') h1
     ·cases h1
    ·cases h1
   ·rename_i hm;exact fin (fun {k'} hk'=>by simp only[hm];exact hk') h1
  ·exact False.elim h1
 ·cases hk
theorem Ea{t:TypeId}{x y:Operand}(hk:bJ D τ ⟨d,.makeSlice t x y,ty,pos,af,gd⟩ e b k):lY D τ ⟨d,.makeSlice t x y,ty,pos,af,gd⟩ e b k:=by
 unfold bJ at hk;simp only at hk;split at hk
 ·rename_i T s by_ z k1 l k2 c i h1 hx hy;obtain⟨n,m,h2,h3,h4,h5,hk1⟩:=hk;refine⟨_,_,hk1,λe' b' k' hA h=>?_⟩;unfold bJ;simp only[h1,hA.op x (by simp[Op.operands]),hA.op y (by simp[Op.operands]),hx,hy];exact⟨n,m,h2,h3,h4,h5,h⟩
 ·cases hk
theorem dQ{e e':Env}{x:Option Operand}(h:∀y∈x.toArray.toList,ae e' y=ae e y):yg e' x=yg e x:=by
 cases x with
 |none=>rfl
 |some y=>simp only[yg,h y (by simp)]
theorem RF{t:TypeId}{x:Operand}{lo hi mx:Option Operand}(hk:bJ D τ ⟨d,.slice t x lo hi mx,ty,pos,af,gd⟩ e b k):lY D τ ⟨d,.slice t x lo hi mx,ty,pos,af,gd⟩ e b k:=by
 unfold bJ at hk;simp only at hk;split at hk
 ·rename_i T s by_ z s' es lo' hi' mx' h1 hx h2 h3 h4;split at hk
  ·rename_i hs;obtain⟨p,q,m,q1,q2,q3,q4,q5,q6,q7,hk1⟩:=hk;refine⟨_,_,hk1,λe' b' k' hA h=>?_⟩;unfold bJ;simp only[h1,hA.op x (by simp[Op.operands]),hx,dQ (x:=lo) (λy hy=>hA.op y (by simp[Op.operands];simp at hy;simp[hy])),dQ (x:=hi) (λy hy=>hA.op y (by simp[Op.operands];simp at hy;simp[hy])),dQ (x:=mx) (λy hy=>hA.op y (by simp[Op.operands];simp at hy;simp[hy])),h2,h3,h4,hs];exact⟨p,q,m,q1,q2,q3,q4,q5,q6,q7,h⟩
  ·cases hk
 ·rename_i T s by_ z c n lo' hi' mx' h1 hx h2 h3 h4;obtain⟨v',f,hk1,hloc⟩:=iK hk;split at hk1
  ·split at hk1
   ·rename_i hs;obtain⟨p,q,m,q1,q2,q3,q4,q5,q6,q7,hk1⟩:=hk1;refine⟨_,_,hk1,λe' b' k' hA h=>?_⟩;unfold bJ;simp only[h1,hA.op x (by simp[Op.operands]),hx,dQ (x:=lo) (λy hy=>hA.op y (by simp[Op.operands];simp at hy;simp[hy])),dQ (x:=hi) (λy hy=>hA.op y (by simp[Op.operands];simp at hy;simp[hy])),dQ (x:=mx) (λy hy=>hA.op y (by simp[Op.operands];simp at hy;simp[hy])),h2,h3,h4];refine hloc b' _ (λi hi=>hA.bx i (by simp[dG]at hi;subst hi;simp[qX,passes,jO,rE,Op.operands,jy,hx,dG])) ?_;simp only[hs];exact⟨p,q,m,q1,q2,q3,q4,q5,q6,q7,h⟩
   ·cases hk1
  ·cases hk1
 ·rename_i s lo' hi' h1 hx h2 h3 h4;obtain⟨p,q,m,q1,q2,q3,q4,q5,q6,q7,hk1⟩:=hk;refine⟨_,_,hk1,λe' b' k' hA h=>?_⟩;unfold bJ;simp only[h1,hA.op x (by simp[Op.operands]),hx,dQ (x:=lo) (λy hy=>hA.op y (by simp[Op.operands];simp at hy;simp[hy])),dQ (x:=hi) (λy hy=>hA.op y (by simp[Op.operands];simp at hy;simp[hy])),dQ (x:=mx) (λy hy=>hA.op y (by simp[Op.operands];simp at hy;simp[hy])),h2,h3,h4];exact⟨p,q,m,q1,q2,q3,q4,q5,q6,q7,h⟩
 ·rename_i n s one z i h1 hx h2 h3 h4;split at hk
  ·rename_i cs hb hn hs;cases hch:chunk s n cs with
   |none=>rw[hch]at hk;cases hk
   |some es =>
    rw[hch]at hk;refine⟨_,_,hk,λe' b' k' hA h=>?_⟩;have hb':=hA.bx i (by simp[qX,passes,jO,rE,Op.operands,jy,hx,dG]);unfold bJ;simp only[h1,hA.op x (by simp[Op.operands]),hx,dQ (x:=lo) (λy hy=>hA.op y (by simp[Op.operands];simp at hy;simp[hy])),dQ (x:=hi) (λy hy=>hA.op y (by simp[Op.operands];simp at hy;simp[hy])),dQ (x:=mx) (λy hy=>hA.op y (by simp[Op.operands];simp at hy;simp[hy])),h2,h3,h4,hb',hb,hn,hs,hch];exact h
  ·cases hk
 ·rename_i T s by_ z lo' hi' mx' h1 hx h2 h3 h4;obtain⟨p,q,m,q1,q2,q3,q4,q5,q6,q7,hk1⟩:=hk;refine⟨_,_,hk1,λe' b' k' hA h=>?_⟩;unfold bJ;simp only[h1,hA.op x (by simp[Op.operands]),hx,dQ (x:=lo) (λy hy=>hA.op y (by simp[Op.operands];simp at hy;simp[hy])),dQ (x:=hi) (λy hy=>hA.op y (by simp[Op.operands];simp at hy;simp[hy])),dQ (x:=mx) (λy hy=>hA.op y (by simp[Op.operands];simp at hy;simp[hy])),h2,h3,h4];exact⟨p,q,m,q1,q2,q3,q4,q5,q6,q7,h⟩
 ·cases hk
end
end Go.Sw
namespace Go.Sw
open Go Go.RowKit
section
variable {P:Program} [Wld P] [Kp] [Gr] {τ:Tab} {N:Nat} {w0:World} {X0:List Nat} {S:List Bx} {M:MM} {a:Act} {w:World} {e:Env} {b:aN}
variable [WOk P w0]
variable {d:Option Nat} {ty:TypeId} {pos:String} {af:Array Edge} {gd:Option (Nat × Bool)} {k:AV→aN→Prop}
inductive CallA (D:FuncId→List AV→AV→Prop) (τ:Tab) (e:Env) (d:Option Nat) (callee:Callee) (vs:List AV) (ts:List TypeId) (b:aN) (k:AV→aN→Prop):Prop where
 |fn (f:FuncId) (cap:List AV) (x:Operand) (h:callee=.value x) (hx:Ic e x=some (f,cap)) (hn:qy vs=none) (hs:wrH τ f vs=.no) (hk:jR (vs++cap) b λa_s fz=>CallP D f a_s λr=>nM d r λv g=>(match oW fz g with|true=>k v (sS r fz++g)|false=>False))
 |fnw (f:FuncId) (cap:List AV) (x:Operand) (i:Nat) (r:List AV) (h:callee=.value x) (hx:Ic e x=some (f,cap)) (hn:qy vs=some (i,r)) (hk:Bq D f i (r++cap) b k)
 |fns (f:FuncId) (cap:List AV) (x:Operand) (i n:Nat) (r:List AV) (h:callee=.value x) (hx:Ic e x=some (f,cap)) (hn:qy vs=none) (hs:wrH τ f vs=.s i n r) (hk:y8 D f i n (r++cap) b k)
 |fnn (f:FuncId) (cap:List AV) (x:Operand) (r:List AV) (h:callee=.value x) (hx:Ic e x=some (f,cap)) (hn:qy vs=none) (hs:wrH τ f vs=.nil r) (hk:jR (r++cap) b λa_s fz=>CallP D f (.c (.v (.slice none 0 0))::a_s) λr=>nM d r λv g=>(match oW fz g with|true=>k v (sS r fz++g)|false=>False))
 |lens (s:Nat) (es:List (List Cell)) (t:TypeId) (e' s' b':Nat) (z:List Cell) (h:callee=.builtin .len) (hv:vs=[.c (.sl s es)]) (ht:ts=[t]) (hl:ld t τ=some (.slice e' s' b' z)) (hk:k (.int .i64 (es.length:Nat)) [])
 |lenstr (s:ByteArray) (t:TypeId) (h:callee=.builtin .len) (hv:vs=[.c (.v (.string s))]) (ht:ts=[t]) (hl:ld t τ=some .str) (hk:k (.int .i64 (s.size:Nat)) [])
 |leng (i n:Nat) (x:Bk) (s:Nat) (es:List (List Cell)) (t:TypeId) (e' s' b':Nat) (z:List Cell) (h:callee=.builtin .len) (hv:vs=[.gs i n]) (ht:ts=[t]) (hb:ld i b=some x) (hx:(∃T,x=.grow T s es)∨x=.froz s es) (hl:ld t τ=some (.slice e' s' b' z)) (hn:n=es.length) (hk:k (.int .i64 (es.length:Nat)) [])
 |lenn (t e' s' b':Nat) (z:List Cell) (h:callee=.builtin .len) (hv:vs=[.c (.v (.slice none 0 0))]) (ht:ts=[t]) (hl:ld t τ=some (.slice e' s' b' z)) (hk:k (.int .i64 ((0:Nat):Int)) [])
 |app0n (t T s by_:Nat) (z:List Cell) (i:Nat) (h:callee=.builtin .append) (hv:vs=[.c (.v (.slice none 0 0)),.c (.v (.slice none 0 0))]) (ht:ts=[t,t]) (hl:ld t τ=some (.slice T s by_ z)) (hd:d=some i) (hk:k (.gs i 0) [(i,.grow T s [])])
 |appn (s:Nat) (es:List (List Cell)) (t T by_:Nat) (z:List Cell) (i n:Nat) (h:callee=.builtin .append) (hv:vs=[.gs i n,.c (.v (.slice none 0 0))]) (ht:ts=[t,t]) (hl:ld t τ=some (.slice T s by_ z)) (hx:ld i b=some (.grow T s es)) (hn:n=es.length) (hb:(es++[]).length*(by_+1)≤140737488355328) (hk:k (.gs i (es++[]).length) [(i,.grow T s (es++[]))])
 |app0 (s:Nat) (es':List (List Cell)) (t T by_:Nat) (z:List Cell) (i:Nat) (h:callee=.builtin .append) (hv:vs=[.c (.v (.slice none 0 0)),.c (.sl s es')]) (ht:ts=[t,t]) (hl:ld t τ=some (.slice T s by_ z)) (hd:d=some i) (hb:es'.length*(by_+1)≤140737488355328) (hk:k (.gs i es'.length) [(i,.grow T s es')])
 |app (s:Nat) (es es':List (List Cell)) (t T by_:Nat) (z:List Cell) (i n:Nat) (h:callee=.builtin .append) (hv:vs=[.gs i n,.c (.sl s es')]) (ht:ts=[t,t]) (hl:ld t τ=some (.slice T s by_ z)) (hx:ld i b=some (.grow T s es)) (hn:n=es.length) (hb:(es++es').length*(by_+1)≤140737488355328) (hk:k (.gs i (es++es').length) [(i,.grow T s (es++es'))])
 |app0g (s c m:Nat) (es':List (List Cell)) (f:aN) (t T by_:Nat) (z:List Cell) (i:Nat) (h:callee=.builtin .append) (hv:vs=[.c (.v (.slice none 0 0)),.gs c m]) (ht:ts=[t,t]) (hl:ld t τ=some (.slice T s by_ z)) (hd:d=some i) (ha:jk b (.gs c m) λv g=>v=.c (.sl s es')∧g=f) (hi:(f.any λp=>Nat.beq p.1 i)=false) (hb:es'.length*(by_+1)≤140737488355328) (hk:k (.gs i es'.length) (f++[(i,.grow T s es')]))
 |appg (s c m:Nat) (es es':List (List Cell)) (f:aN) (t T by_:Nat) (z:List Cell) (i n:Nat) (h:callee=.builtin .append) (hv:vs=[.gs i n,.gs c m]) (ht:ts=[t,t]) (hl:ld t τ=some (.slice T s by_ z)) (hx:ld i b=some (.grow T s es)) (hic:¬i=c) (ha:jk b (.gs c m) λv g=>v=.c (.sl s es')∧g=f) (hn:n=es.length) (hb:(es++es').length*(by_+1)≤140737488355328) (hk:k (.gs i (es++es').length) (f++[(i,.grow T s (es++es'))]))
 |min (ki:IntKind) (n0 n1:Int) (ns:List Int) (r:List AV) (h:callee=.builtin .min) (hv:vs=.c (.v (.int ki n1))::r) (hn:jd JK vs=some (n0::ns)) (hk:k (.int ki (ns.foldl (λx y=>if y<x then y else x) n0)) [])
 |max (ki:IntKind) (n0 n1:Int) (ns:List Int) (r:List AV) (h:callee=.builtin .max) (hv:vs=.c (.v (.int ki n1))::r) (hn:jd JK vs=some (n0::ns)) (hk:k (.int ki (ns.foldl (λx y=>if y>x then y else x) n0)) [])
theorem TY{D:FuncId→List AV→AV→Prop}{callee:Callee}{xs:Array Operand}{ts:Array TypeId}(hk:bJ D τ ⟨d,.call ⟨callee,xs,ts⟩,ty,pos,af,gd⟩ e b k):
 ∃vs,jd (λx=>ae e x) xs.toList=some vs∧CallA D τ e d callee vs ts.toList b k:=by
 unfold bJ at hk;simp only at hk;split at hk
 ·rename_i x vs hv;split at hk
  ·rename_i f cap hx hn;split at hk
   ·rename_i i n r hs;exact⟨_,hv,.fns f cap x i n r rfl hx hn hs hk⟩
   ·rename_i r hs;exact⟨_,hv,.fnn f cap x r rfl hx hn hs hk⟩
   ·rename_i hs;exact⟨_,hv,.fn f cap x rfl hx hn hs hk⟩
  ·rename_i f cap i r hx hn;exact⟨_,hv,.fnw f cap x i r rfl hx hn hk⟩
  ·exact False.elim hk
 ·rename_i s es hv;split at hk
  ·rename_i t ht;split at hk
   ·rename_i e' s' b' z hl;exact⟨_,hv,.lens s es t e' s' b' z rfl rfl ht hl hk⟩
   ·cases hk
  ·cases hk
 ·rename_i s hv;split at hk
  ·rename_i t ht;split at hk
   ·rename_i hl;exact⟨_,hv,.lenstr s t rfl rfl ht hl hk⟩
   ·cases hk
  ·cases hk
 ·rename_i i n hv;split at hk
  ·rename_i t T s es ht hb;split at hk
   ·rename_i e' s' b' z hl;exact⟨_,hv,.leng i n _ s es t e' s' b' z rfl rfl ht hb (.inl ⟨T,rfl⟩) hl hk.p hk.k⟩
   ·cases hk
  ·rename_i t s es ht hb;split at hk
   ·rename_i e' s' b' z hl;exact⟨_,hv,.leng i n _ s es t e' s' b' z rfl rfl ht hb (.inr rfl) hl hk.p hk.k⟩
   ·cases hk
  ·cases hk
 ·rename_i hv;split at hk
  ·rename_i t ht;split at hk
   ·rename_i e' s' b' z hl;exact⟨_,hv,.lenn t e' s' b' z rfl rfl ht hl hk⟩
   ·cases hk
  ·cases hk
 ·rename_i x y hv;split at hk
  ·rename_i t t' ht;split at hk
   ·rename_i T s by_ z htt hl;have:=rG htt;subst this;split at hk
    ·rename_i c m;split at hk
     ·rename_i i n;obtain⟨v',f,h1,h2⟩:=iK hk;have ha:∀{x:AV} {f':aN},v'=x→f=f'→jk b (.gs c m) λv g=>v=x∧g=f':=λe1 e2=>h2 b _ (λ_ _=>rfl) ⟨e1,e2⟩
      split at h1
      ·rename_i s' es' T' s'' es hb hbc;split at h1
       ·rename_i hT hs2 hs;have e1:=rG hT;have e2:=rG hs2;have e3:=rG hs;subst e1 e2 e3;exact⟨_,hv,.appg s c m es es' f t T by_ z i n rfl rfl ht hl hb (λe=>by subst e;simp at hbc) (ha rfl rfl) h1.p h1.k.p h1.k.k⟩
       ·cases h1
      ·cases h1
     ·obtain⟨v',f,h1,h2⟩:=iK hk;have ha:∀{x:AV} {f':aN},v'=x→f=f'→jk b (.gs c m) λv g=>v=x∧g=f':=λe1 e2=>h2 b _ (λ_ _=>rfl) ⟨e1,e2⟩
      split at h1
      ·rename_i s' es' i;split at h1
       ·rename_i hs hi;have e3:=rG hs;subst e3;exact⟨_,hv,.app0g s c m es' f t T by_ z i rfl rfl ht hl rfl (ha rfl rfl) hi h1.p h1.k⟩
       ·cases h1
      ·cases h1
     ·cases hk
    ·split at hk
     ·split at hk
      ·rename_i i;exact⟨_,hv,.app0n t T s by_ z i rfl rfl ht hl rfl hk⟩
      ·cases hk
     ·rename_i i n;split at hk
      ·rename_i T' s'' es hb;split at hk
       ·rename_i hT hs2;have h1:=rG hT;have h2:=rG hs2;subst h1 h2;exact⟨_,hv,.appn s es t T by_ z i n rfl rfl ht hl hb hk.p hk.k.p hk.k.k⟩
       ·cases hk
      ·cases hk
     ·cases hk
    ·rename_i s' es';split at hk
     ·rename_i hs;have:=rG hs;subst this;split at hk
      ·split at hk
       ·rename_i i;exact⟨_,hv,.app0 s es' t T by_ z i rfl rfl ht hl rfl hk.p hk.k⟩
       ·cases hk
      ·rename_i i n;split at hk
       ·rename_i T' s'' es hb;split at hk
        ·rename_i hT hs2;have h1:=rG hT;have h2:=rG hs2;subst h1 h2;exact⟨_,hv,.app s es es' t T by_ z i n rfl rfl ht hl hb hk.p hk.k.p hk.k.k⟩
        ·cases hk
       ·cases hk
      ·cases hk
     ·cases hk
    ·cases hk
   ·cases hk
  ·cases hk
 ·rename_i vs hv;split at hk
  ·rename_i n0 ns ki n1 r hn;exact⟨_,hv,.min ki n0 n1 ns r rfl rfl hn hk⟩
  ·cases hk
 ·rename_i vs hv;split at hk
  ·rename_i n0 ns ki n1 r hn;exact⟨_,hv,.max ki n0 n1 ns r rfl rfl hn hk⟩
  ·cases hk
 ·cases hk
theorem gs_len{c m:Nat}{v0:AV}{f0:aN}(h:Sta N w0 X0 S M a w e b)(ha:jk b (.gs c m) λv g=>v=v0∧g=f0){mb:MB}(hm:M c=some mb):mb.n=m:=by
 unfold jk at ha;simp only at ha;split at ha
 ·rename_i T s es hb;obtain⟨m',hm',q1,q2,q3,q4,q5,q6⟩:=h.box c _ hb;rw[hm]at hm';cases hm';have:=ha.p;omega
 ·rename_i s es hb;obtain⟨m',hm',q1,q2,q3,q4⟩:=h.box c _ hb;rw[hm]at hm';cases hm';have:=ha.p;omega
 ·cases ha
theorem YM{c m:Nat}{v0:AV}{f0:aN}(ha:jk b (.gs c m) λv g=>v=v0∧g=f0):∀i∈f0.map (·.1),i=c:=by
 unfold jk at ha;simp only at ha;split at ha
 ·have:=ha.k.2;subst this;simp
 ·have:=ha.k.2;subst this;simp
 ·cases ha
theorem VA{c:Call}(hτ:dN P τ=true)(h:Sta N w0 X0 S M a w e b)(hk:bJ (Den P) τ ⟨d,.call c,ty,pos,af,gd⟩ e b k):Good P w0 X0 S M a w ⟨d,.call c,ty,pos,af,gd⟩ k:=by
 obtain⟨callee,xs,ts⟩:=c;obtain⟨vs,hv,hc⟩:=TY hk;have hta:∀{l:List TypeId},ts.toList=l→ts=l.toArray:=λh=>Dv (by simpa using h)
 cases hc with
 |fn f cap x h1 hx hn hs hk1=>subst h1;exact ZW hx h hv hk1
 |fnw f cap x i r h1 hx hn hk1=>subst h1;rw[qV hn]at hv;exact TD hx h hv hk1
 |fns f cap x i n r h1 hx hn hs hk1=>subst h1;rw[Iq hs]at hv;exact acF hx h hv hk1
 |fnn f cap x r h1 hx hn hs hk1=>subst h1;rw[Qc hs]at hv;exact Ve hx h hv hk1
 |lens s es t e' s' b' z h1 h2 h3 h4 hk1 =>
  subst h1 h2;rw[hta h3];exact o8 (aT hτ h4) h hv (λu hu=>by obtain⟨A,cap,uss,ha,_⟩:=RepS.of_sl hu.sl_;exact⟨A,cap,ha⟩) hk1
 |lenstr s t h1 h2 h3 h4 hk1 =>
  subst h1 h2;rw[hta h3];obtain⟨us,hu,hl,hr⟩:=qw h hv
  obtain⟨u,rfl⟩:∃u,us=[u]:=by
   match us,hl with
   |[u],_=>exact⟨u,rfl⟩
  have hue:=(hr 0 u _ rfl rfl).v_;subst hue;refine .val h.ms hk1 (u:=.int .i64 s.size) ?_ (.d (.c (.v _ rfl)));simp[execOp,resolve,invoke,builtin,hu,Builtin.len_,run_underlying (RY (aT hτ h4)),goInt]
 |leng i n x s es t e' s' b' z h1 h2 h3 h4 h5 h6 h7 hk1 =>
  subst h1 h2;rw[hta h3];refine o8 (aT hτ h6) h hv (λu hu=>?_) hk1;obtain⟨m,hm,q1,q2,q3,_⟩:=h.elems h4 h5;obtain⟨m',hm',hvv,hn⟩:=hu.gs_;rw[hm]at hm';cases hm';rw[hn (by omega)];unfold hdr;exact⟨_,_,by rw[q3]⟩
 |lenn t e' s' b' z h1 h2 h3 h4 hk1 =>
  subst h1 h2;rw[hta h3];exact o8 (aT hτ h4) h hv (λu hu=>⟨none,0,hu.v_⟩) hk1
 |app0n t T s by_ z i h1 h2 h3 h4 h5 hk1 =>
  subst h1 h2;rw[hta h3];exact jW (es':=[]) (aT hτ h4) h hv h.ms (Chg.refl _ _ _) (FrzOnly.nil _) (λu hu=>by rw[hu.v_];exact .c (RepC.nil _ _ _)) (.inl ⟨rfl,i,h5,by simp,by simp,hk1⟩)
 |appn s es t T by_ z i n h1 h2 h3 h4 h5 h6 h7 hk1 =>
  subst h1 h2;rw[hta h3];exact jW (es':=[]) (aT hτ h4) h hv h.ms (Chg.refl _ _ _) (FrzOnly.nil _) (λu hu=>by rw[hu.v_];exact .c (RepC.nil _ _ _)) (.inr ⟨i,n,es,rfl,by simp,h5,h6,h7,hk1⟩)
 |app0 s es' t T by_ z i h1 h2 h3 h4 h5 h6 hk1 =>
  subst h1 h2;rw[hta h3];exact jW (aT hτ h4) h hv h.ms (Chg.refl _ _ _) (FrzOnly.nil _) (λu hu => .c hu.sl_) (.inl ⟨rfl,i,h5,by simp,h6,hk1⟩)
 |app0g s c m es' f t T by_ z i h1 h2 h3 h4 h5 h6 h7 h8 hk1 =>
  subst h1 h2;rw[hta h3];obtain⟨us,hu,hl,hr⟩:=qw h hv
  obtain⟨u0,u1,rfl⟩:∃u0 u1,us=[u0,u1]:=by
   match us,hl with
   |[u0,u1],_=>exact⟨u0,u1,rfl⟩
  obtain⟨v',f',S1,M1,⟨rfl,rfl⟩,hm1,hc1,hd1,hfo⟩:=oh h (hr 1 u1 _ rfl rfl) h6
  have huq:∀u,RepV w (bl S++X0) M u (.gs c m)→RepD w (bl S1++X0) u (.c (.sl s es')):=λu hu=>by
   obtain⟨mb,q1,q2,q3⟩:=hu.gs_;obtain⟨mb',q1',q2',q3'⟩:=(hr 1 u1 _ rfl rfl).gs_;rw[q1]at q1';cases q1';have hn:mb.n=m:=gs_len h h6 q1;rw[q3 hn,←q3' hn];exact hd1
  refine jW (aT hτ h4) h hv hm1 hc1 hfo huq (.inl ⟨rfl,i,h5,λhm=>?_,h8,hk1⟩);obtain⟨p,hp,hpe⟩:=fV.1 hm;have:=KY.1 h7 p hp;rw[hpe]at this;simp at this
 |app s es es' t T by_ z i n h1 h2 h3 h4 h5 h6 h7 hk1 =>
  subst h1 h2;rw[hta h3];exact jW (aT hτ h4) h hv h.ms (Chg.refl _ _ _) (FrzOnly.nil _) (λu hu => .c hu.sl_) (.inr ⟨i,n,es,rfl,by simp,h5,h6,h7,hk1⟩)
 |appg s c m es es' f t T by_ z i n h1 h2 h3 h4 h5 h6 h7 h8 h9 hk1 =>
  subst h1 h2;rw[hta h3];obtain⟨us,hu,hl,hr⟩:=qw h hv
  obtain⟨u0,u1,rfl⟩:∃u0 u1,us=[u0,u1]:=by
   match us,hl with
   |[u0,u1],_=>exact⟨u0,u1,rfl⟩
  have hkeys:=YM h7;obtain⟨v',f',S1,M1,⟨rfl,rfl⟩,hm1,hc1,hd1,hfo⟩:=oh h (hr 1 u1 _ rfl rfl) h7
  have huq:∀u,RepV w (bl S++X0) M u (.gs c m)→RepD w (bl S1++X0) u (.c (.sl s es')):=λu hu=>by
   obtain⟨mb,q1,q2,q3⟩:=hu.gs_;obtain⟨mb',q1',q2',q3'⟩:=(hr 1 u1 _ rfl rfl).gs_;rw[q1]at q1';cases q1';have hn:mb.n=m:=gs_len h h7 q1;rw[q3 hn,←q3' hn];exact hd1
  exact jW (aT hτ h4) h hv hm1 hc1 hfo huq (.inr ⟨i,n,es,rfl,λhm=>h6 (hkeys i hm),h5,h8,h9,hk1⟩)
 |min ki n0 n1 ns r h1 h2 h3 hk1=>subst h1 h2;exact zy false h hv h3 (by simpa using hk1)
 |max ki n0 n1 ns r h1 h2 h3 hk1=>subst h1 h2;exact zy true h hv h3 (by simpa using hk1)
theorem Qi{r:AV}{fz:aN}(hkr:nM d r λv g=>(match oW fz g with|true=>k v (sS r fz++g)|false=>False)):∃v g,k v g∧∀k':AV→aN→Prop,k' v g→nM d r λv g=>(match oW fz g with|true=>k' v (sS r fz++g)|false=>False):=by
 rcases Bl hkr with⟨hno,hk2,h4⟩|⟨T,s,es,i,rfl,rfl,hk2,h4⟩|⟨vs',i,V,F,rfl,rfl,hle,hVF,hk2,h4⟩
 ·exact⟨_,_,hk2,λk' hk'=>(by
   have h5:∀{q:AV→aN→Prop},q r []→nM d r q:=fun {q} hq=>by
    unfold nM;cases r<;>first|exact hq|(simp[EW]at hno;done)|skip
    rename_i vs'
    have:vs'.any oq=false:=by
     rw[KY];intro y hy;have:=lU.1 hno y hy;simpa using this
    simp only[this];exact hq
   exact h5 hk')⟩
 ·split at hk2
  ·rename_i hdj;exact⟨_,_,hk2,λk' hk'=>by unfold nM;simp only[hdj];exact hk'⟩
  ·cases hk2
 ·split at hk2
  ·rename_i hdj;refine⟨_,_,hk2,λk' hk'=>?_⟩;unfold nM at hkr ⊢;simp only at hkr ⊢;cases hq:vs'.any oq with
   |false =>
    simp only[hq]at hkr ⊢
    have hall:(vs'.all λv=>!oq v)=true:=lU.2 λy hy=>by
     have:=KY.1 hq y hy;simpa using this
    have hV:V=vs'∧F=[]:=by
     have key:∀{vs:List AV} {i j:Nat} {k:List AV→aN→Prop},(vs.all λv=>!oq v)=true→kU i j vs k→k vs []:=by
      intro vs;induction vs with
      |nil=>intro i j k _ h;exact h
      |cons v r ih =>
       intro i j k h hk;simp only[List.all_cons,eF]at h
       cases v<;>first
        |(simp[oq]at h;done)|exact ih (k:=λvs f=>k (_::vs) f) h.2 hk
     have:=key (i:=i) (j:=KK) (k:=λa c=>V=a∧F=c) hall (by rw[hVF];exact⟨rfl,rfl⟩);exact this
    obtain⟨rfl,rfl⟩:=hV;simp only[hdj];exact hk'
   |true =>
    simp only[Nat.ble_eq_true_of_le hle];rw[hVF];simp only[hdj];exact hk'
  ·cases hk2
theorem TU{D:FuncId→List AV→AV→Prop}{c:Call}(hk:bJ D τ ⟨d,.call c,ty,pos,af,gd⟩ e b k):lY D τ ⟨d,.call c,ty,pos,af,gd⟩ e b k:=by
 obtain⟨callee,xs,ts⟩:=c;obtain⟨vs,hv,hc⟩:=TY hk
 have hops:∀{e' b'},Alike ⟨d,.call ⟨callee,xs,ts⟩,ty,pos,af,gd⟩ e b e' b'→jd (λx=>ae e' x) xs.toList=some vs:=by
  intro e' b' hA;rw[←hv];exact pY λx hx=>hA.op x (by simp only[Op.operands,Call.operands];simp only[Array.toList_append];exact qC _ hx)
 have hfnA:∀{e' b'} {x:Operand},Alike ⟨d,.call ⟨callee,xs,ts⟩,ty,pos,af,gd⟩ e b e' b'→callee=.value x→Ic e' x=Ic e x:=by
  intro e' b' x hA hc;subst hc;unfold Ic;rw[hA.op x (by simp[Op.operands,Call.operands])]
 have hids:∀{e' b'},Alike ⟨d,.call ⟨callee,xs,ts⟩,ty,pos,af,gd⟩ e b e' b'→vW (vs.flatMap dG) b b':=by
  intro e' b' hA i hi;refine hA.bx i ?_;simp only[qX,passes,cond_false,jO,gq,rE,Op.operands,Call.operands,Array.toList_append];rw[Xc,BQ hv]at *;exact qC _ hi
 have hcap:∀{f:FuncId} {cap:List AV} {x:Operand},Ic e x=some (f,cap)→cap.flatMap dG=[]:=by
  intro f cap x hx;unfold Ic at hx;split at hx
  ·split at hx
   ·cases hx;rfl
   ·cases hx
  ·rename_i f' cs hu;cases hx;induction cs with
   |nil=>rfl
   |cons c r ih=>rw[gY,Np];simpa[dG]using ih
  ·cases hx
 cases hc with
 |fn f cap x h1 hx hn hs hk1 =>
  subst h1;have hfx:=fun {e' b'} (hA:Alike ⟨d,.call ⟨.value x,xs,ts⟩,ty,pos,af,gd⟩ e b e' b')=>hfnA hA rfl
  obtain⟨a_s,fz,⟨r,hr,hkr⟩,h3⟩:=kW hk1;obtain⟨v,g,hkv,h4⟩:=Qi hkr;refine⟨_,_,hkv,λe' b' k' hA h=>?_⟩;unfold bJ;simp only[hops hA,hfx hA,hx,hn,hs]
  ·refine h3 b' _ (λi hi=>?_) ⟨r,hr,h4 _ h⟩;rw[Xc,hcap hx,gq]at hi;exact hids hA i hi
 |fnw f cap x i r h1 hx hn hk1 =>
  subst h1;have hfx:=fun {e' b'} (hA:Alike ⟨d,.call ⟨.value x,xs,ts⟩,ty,pos,af,gd⟩ e b e' b')=>hfnA hA rfl
  rcases Bv hk1 with⟨cs,hbx,hk1⟩|⟨G,hbx,hk1⟩
  case inr =>
   obtain⟨a_s,fz,hk2,h3⟩:=kW hk1
   match fz,hk2,h3 with
   |_::_,hk2,_=>exact False.elim hk2
   |[],⟨q,hq,hkq⟩,h3 =>
   obtain⟨G',v,rfl,hpl,hkv⟩:=zK hkq;refine⟨_,_,hkv,λe' b' k' hA h=>?_⟩;have hvs:=qV hn;have hid:=hids hA;unfold bJ;simp only[hops hA,hfx hA,hx,hn];unfold Bq;rw[hid i (by rw[hvs];simp[dG]),hbx];exact h3 b' _ (λj hj=>hid j (by rw[Xc,hcap hx,gq]at hj;rw[hvs,Np];exact qC _ hj)) ⟨_,hq,by unfold yw;simp only[hpl];exact h⟩
  obtain⟨a_s,fz,hk2,h3⟩:=kW hk1
  match fz,hk2,h3 with
  |_::_,hk2,_=>exact False.elim hk2
  |[],⟨q,hq,hkq⟩,h3 =>
  obtain⟨cs',v,rfl,hpl,hkv⟩:=CO hkq;refine⟨_,_,hkv,λe' b' k' hA h=>?_⟩;have hvs:=qV hn;have hid:=hids hA;unfold bJ;simp only[hops hA,hfx hA,hx,hn];unfold Bq;rw[hid i (by rw[hvs];simp[dG]),hbx];exact h3 b' _ (λj hj=>hid j (by rw[Xc,hcap hx,gq]at hj;rw[hvs,Np];exact qC _ hj)) ⟨_,hq,by unfold Jp;simp only[hpl];exact h⟩
 |fnn f cap x r0 h1 hx hn hs hk1 =>
  subst h1;have hfx:=fun {e' b'} (hA:Alike ⟨d,.call ⟨.value x,xs,ts⟩,ty,pos,af,gd⟩ e b e' b')=>hfnA hA rfl
  obtain⟨a_s,fz,⟨r,hr,hkr⟩,h3⟩:=kW hk1;obtain⟨v,g,hkv,h4⟩:=Qi hkr;refine⟨_,_,hkv,λe' b' k' hA h=>?_⟩;unfold bJ;simp only[hops hA,hfx hA,hx,hn,hs];refine h3 b' _ (λi hi=>?_) ⟨r,hr,h4 _ h⟩;rw[Xc,hcap hx,gq]at hi;exact hids hA i (by rw[Qc hs,Np];exact qC _ hi)
 |fns f cap x i n r h1 hx hn hs hk1 =>
  subst h1;have hfx:=fun {e' b'} (hA:Alike ⟨d,.call ⟨.value x,xs,ts⟩,ty,pos,af,gd⟩ e b e' b')=>hfnA hA rfl
  obtain⟨T,s,es,hbx,hk1⟩:=CW hk1;obtain⟨a_s,fz,hk2,h3⟩:=kW hk1
  match fz,hk2,h3 with
  |_::_,hk2,_=>exact False.elim hk2
  |[],⟨hp,hlen⟩,h3 =>
  have hvs:=Iq hs;rcases zu es.length with hz|hpos
  ·obtain⟨q,hq,hkq⟩:=hlen.f hz;obtain⟨hpl,hkv⟩:=zn hkq;refine⟨_,_,hkv,λe' b' k' hA h=>?_⟩;have hid:=hids hA;unfold bJ;simp only[hops hA,hfx hA,hx,hn,hs];unfold y8;rw[hid i (by rw[hvs];simp[dG]),hbx];exact h3 b' _ (λj hj=>hid j (by rw[Xc,hcap hx,gq]at hj;rw[hvs,Np];exact qC _ hj)) ⟨hp,⟨λh0=>absurd hz (by omega),λ_=>⟨_,hq,by unfold Bh;rw[hpl];exact h⟩⟩⟩
  obtain⟨q,hq,hkq⟩:=hlen.t hpos;rcases zH hkq with⟨es',v,rfl,hpl,hkv⟩|⟨v,rfl,hpl,hkv⟩
  all_goals refine⟨_,_,hkv,λe' b' k' hA h=>?_⟩
  ·have hid:=hids hA;unfold bJ;simp only[hops hA,hfx hA,hx,hn,hs];unfold y8;rw[hid i (by rw[hvs];simp[dG]),hbx];exact h3 b' _ (λj hj=>hid j (by rw[Xc,hcap hx,gq]at hj;rw[hvs,Np];exact qC _ hj)) ⟨hp,⟨λ_=>⟨_,hq,by unfold yS;simp only[Wn,hpl];exact h⟩,λh0=>absurd h0 (by omega)⟩⟩
  ·have hid:=hids hA;unfold bJ;simp only[hops hA,hfx hA,hx,hn,hs];unfold y8;rw[hid i (by rw[hvs];simp[dG]),hbx];exact h3 b' _ (λj hj=>hid j (by rw[Xc,hcap hx,gq]at hj;rw[hvs,Np];exact qC _ hj)) ⟨hp,⟨λ_=>⟨_,hq,by unfold yS;simp only[hpl];exact h⟩,λh0=>absurd h0 (by omega)⟩⟩
 |lens s es t e' s' b' z h1 h2 h3 h4 hk1 =>
  subst h1 h2;refine⟨_,_,hk1,λe' b' k' hA h=>?_⟩;unfold bJ;simp only[hops hA,h3,h4];exact h
 |lenstr s t h1 h2 h3 h4 hk1 =>
  subst h1 h2;refine⟨_,_,hk1,λe' b' k' hA h=>?_⟩;unfold bJ;simp only[hops hA,h3,h4];exact h
 |leng i n x s es t e' s' b' z h1 h2 h3 h4 h5 h6 h7 hk1 =>
  subst h1 h2;refine⟨_,_,hk1,λe' b' k' hA h=>?_⟩;have hb':=hids hA i (by simp[dG]);unfold bJ;rcases h5 with⟨T,rfl⟩|rfl
  ·simp only[hops hA,h3,hb',h4,h6];exact⟨h7,h⟩
  ·simp only[hops hA,h3,hb',h4,h6];exact⟨h7,h⟩
 |app0 s es' t T by_ z i h1 h2 h3 h4 h5 h6 hk1 =>
  subst h1 h2 h5;refine⟨_,_,hk1,λe' b' k' hA h=>?_⟩;unfold bJ;simp only[hops hA,h3,h4,Wn];exact⟨h6,h⟩
 |app0g s c m es' f t T by_ z i h1 h2 h3 h4 h5 h6 h7 h8 hk1 =>
  subst h1 h2 h5;refine⟨_,_,hk1,λe' b' k' hA h=>?_⟩;obtain⟨v',f',⟨rfl,rfl⟩,h9⟩:=iK h6;unfold bJ;simp only[hops hA,h3,h4,Wn];refine h9 b' _ (λj hj=>hids hA j (by simp only[Np];exact qC _ (xW _ hj))) ?_;simp only[Wn,h7];exact⟨h8,h⟩
 |appg s c m es es' f t T by_ z i n h1 h2 h3 h4 h5 h6 h7 h8 h9 hk1 =>
  subst h1 h2;refine⟨_,_,hk1,λe' b' k' hA h=>?_⟩;have hb':=hids hA i (by simp[dG]);obtain⟨v',f',⟨rfl,rfl⟩,h10⟩:=iK h7;unfold bJ;simp only[hops hA,h3,h4,Wn];refine h10 b' _ (λj hj=>hids hA j (by simp[dG]at hj ⊢;exact .inr hj)) ?_;simp only[hb',h5,Wn,dP h6];exact⟨h8,⟨h9,h⟩⟩
 |app s es es' t T by_ z i n h1 h2 h3 h4 h5 h6 h7 hk1 =>
  subst h1 h2;refine⟨_,_,hk1,λe' b' k' hA h=>?_⟩;have hb':=hids hA i (by simp[dG]);unfold bJ;simp only[hops hA,h3,h4,hb',h5,Wn];exact⟨h6,⟨h7,h⟩⟩
 |lenn t e' s' b' z h1 h2 h3 h4 hk1 =>
  subst h1 h2;refine⟨_,_,hk1,λe' b' k' hA h=>?_⟩;unfold bJ;simp only[hops hA,h3,h4];exact h
 |app0n t T s by_ z i h1 h2 h3 h4 h5 hk1 =>
  subst h1 h2 h5;refine⟨_,_,hk1,λe' b' k' hA h=>?_⟩;unfold bJ;simp only[hops hA,h3,h4,Wn];exact h
 |appn s es t T by_ z i n h1 h2 h3 h4 h5 h6 h7 hk1 =>
  subst h1 h2;refine⟨_,_,hk1,λe' b' k' hA h=>?_⟩;have hb':=hids hA i (by simp[dG]);unfold bJ;simp only[hops hA,h3,h4,hb',h5,Wn];exact⟨h6,⟨h7,h⟩⟩
 |min ki n0 n1 ns r h1 h2 h3 hk1 =>
  subst h1 h2;refine⟨_,_,hk1,λe' b' k' hA h=>?_⟩;unfold bJ;simp only[hops hA,h3];exact h
 |max ki n0 n1 ns r h1 h2 h3 hk1 =>
  subst h1 h2;refine⟨_,_,hk1,λe' b' k' hA h=>?_⟩;unfold bJ;simp only[hops hA,h3];exact h
theorem Dj{o:Oper}(hτ:dN P τ=true)(h:Sta N w0 X0 S M a w e b)(hk:bJ (Den P) τ o e b k):Good P w0 X0 S M a w o k:=by
 obtain⟨d,op,ty,pos,af,gd⟩:=o;cases op with
 |move x=>exact U0 (τ:=τ) h hk
 |assign x=>exact NT hτ h hk
 |pick x y z=>exact WU h hk
 |alloc t=>exact RZ hτ h hk
 |box t x=>exact Zl h hk
 |load t x=>exact Xo hτ h hk
 |store t x y=>exact Rk hτ h hk
 |fieldAddr t x i=>exact DX hτ h hk
 |field t x i=>exact Ru hτ h hk
 |indexAddr t x y=>exact DZ hτ h hk
 |index t x y=>exact Qr hτ h hk
 |extract x i=>exact Jq h hk
 |binOp op t x y u=>exact Zm hτ h hk
 |unOp op t x =>
  cases op with
  |not=>exact Yz h hk
  |neg=>exact Yx h hk
  |_=>exact False.elim hk
 |convert s t x=>exact U4 hτ h hk
 |build t ps=>exact RV hτ h hk
 |buildSlice t n ps=>exact BJ hτ h hk
 |makeFunc fn first captured=>exact F5 h hk
 |call c=>exact VA hτ h hk
 |makeSlice t x y=>exact D6 hτ h hk
 |slice t x lo hi mx=>exact QF hτ h hk
 |nilCheck x=>exact Ht h hk
 |_=>exact False.elim hk
theorem Jg{D:FuncId→List AV→AV→Prop}{o:Oper}(hk:bJ D τ o e b k):lY D τ o e b k:=by
 obtain⟨d,op,ty,pos,af,gd⟩:=o;cases op with
 |move x=>exact Vu hk
 |assign x=>exact Ld hk
 |pick x y z=>exact Tt hk
 |alloc t=>exact Rx hk
 |box t x=>exact aaf hk
 |load t x=>exact Wh hk
 |store t x y=>exact Si hk
 |fieldAddr t x i=>exact DT hk
 |field t x i=>exact Rj hk
 |indexAddr t x y=>exact Dz hk
 |index t x y=>exact Q8 hk
 |extract x i=>exact I5 hk
 |binOp op t x y u=>exact Yu hk
 |unOp op t x =>
  cases op with
  |not=>exact Yl hk
  |neg=>exact YA hk
  |_=>exact False.elim hk
 |convert s t x=>exact Wi hk
 |build t ps=>exact QU hk
 |buildSlice t n ps=>exact Dp hk
 |makeFunc fn first captured=>exact FI hk
 |call c=>exact TU hk
 |makeSlice t x y=>exact Ea hk
 |slice t x lo hi mx=>exact RF hk
 |nilCheck x=>exact Gg hk
 |_=>exact False.elim hk
theorem WX{t:TypeId}{x:Operand}{v:AV}{c:Nat}(h:c∈rE ⟨d,.load t x,ty,pos,af,gd⟩ e):c∈SS ⟨d,.load t x,ty,pos,af,gd⟩ e b v:=by
 cases v<;>simp only[SS,qX,passes,cond_false]<;>first|exact h|exact xW _ h
theorem ac6{t:TypeId}{x:Operand}{v:AV}{c:Nat}(hv:∀i n,v ≠ .gs i n)(h:c∈qX ⟨d,.load t x,ty,pos,af,gd⟩ e b):c∈SS ⟨d,.load t x,ty,pos,af,gd⟩ e b v:=by
 cases v<;>simp only[SS]<;>first|exact h|exact absurd rfl (hv _ _)
theorem LG{ti:TI}{cs:List Cell}{b:aN}{k:AV→aN→Prop}(hk:sW ti cs b k):∃v f,k v f∧∀(b':aN) (k':AV→aN→Prop),((∀i n,v ≠ .gs i n)→vW (kJ cs) b b')→k' v f→sW ti cs b' k':=by
 unfold sW at hk;split at hk
 ·rename_i n hn;split at hk
  ·rename_i l hl;obtain⟨cs',f,h1,h2⟩:=qE hk;refine⟨_,_,h1,λb' k' hB h=>?_⟩;unfold sW;simp only[hn,hl];exact h2 b' _ (λi hi=>hB (λ_ _ h=>by cases h) i (yQ hl i hi)) h
  ·cases hk
 ·rename_i hn;cases ti<;>(try simp only at hk)<;>first|(cases hk;done)|(simp[WM]at hn;done)|skip
  all_goals(cases cs with
   |nil=>cases hk
   |cons c r=>exact⟨_,_,hk,λb' k' hB h=>h⟩)
theorem RD{D:FuncId→List AV→AV→Prop}{t:TypeId}{x:Operand}(hk:bJ D τ ⟨d,.load t x,ty,pos,af,gd⟩ e b k):∃v f,k v f∧∀(e':Env) (b':aN) (k':AV→aN→Prop),ae e' x=ae e x→vW (SS ⟨d,.load t x,ty,pos,af,gd⟩ e b v) b b'→k' v f→bJ D τ ⟨d,.load t x,ty,pos,af,gd⟩ e' b' k':=by
 unfold bJ at hk;simp only at hk;split at hk
 case h_1 =>
  rename_i ti i off ht hx;have hi:∀v,i∈SS ⟨d,.load t x,ty,pos,af,gd⟩ e b v:=λv=>WX (by simp[rE,Op.operands,jy,hx,dG])
  split at hk
  ·rename_i cs hb;cases hr:jq ti (dX off cs)with
   |none=>simp[hr]at hk
   |some v =>
    simp only[hr]at hk;refine⟨_,_,hk,λe' b' k' hA hB h=>?_⟩;have hb':=hB i (hi _);unfold bJ;simp only[ht,hA,hx,hb',hb,hr];exact h
  ·rename_i cs hb;cases hr:jq ti (dX off cs)with
   |none=>simp[hr]at hk
   |some v =>
    simp only[hr]at hk;refine⟨_,_,hk,λe' b' k' hA hB h=>?_⟩;have hb':=hB i (hi _);unfold bJ;simp only[ht,hA,hx,hb',hb,hr];exact h
  ·rename_i cs hb;obtain⟨v,f,h1,h2⟩:=LG hk;refine⟨_,_,h1,λe' b' k' hA hB h=>?_⟩;have hb':=hB i (hi _);unfold bJ;simp only[ht,hA,hx,hb',hb];refine h2 b' k' (λhv j hj=>hB j (ac6 hv ?_)) h;simp only[qX,passes,cond_false,jO];exact qC _ (List.mem_flatMap.2 ⟨i,by simp[rE,Op.operands,jy,hx,dG],by simp only[Tn,hb];exact yU j hj⟩)
  ·cases hk
 case h_2 =>
  rename_i ti cs ht hx;cases hr:jq ti cs with
  |none=>simp[hr]at hk
  |some v =>
   simp only[hr]at hk;refine⟨_,_,hk,λe' b' k' hA hB h=>?_⟩;unfold bJ;simp only[ht,hA,hx,hr];exact h
 case h_3 =>
  rename_i ti cs ht hx;cases hr:jq ti cs with
  |none=>simp[hr]at hk
  |some v =>
   simp only[hr]at hk;refine⟨_,_,hk,λe' b' k' hA hB h=>?_⟩;unfold bJ;simp only[ht,hA,hx,hr];exact h
 case h_4 =>
  rename_i ti g off ht hx;split at hk
  ·rename_i kk cs hg;cases hr:jq ti (dX off cs)with
   |none=>simp[hr]at hk
   |some v =>
    simp only[hr]at hk;refine⟨_,_,hk,λe' b' k' hA hB h=>?_⟩;unfold bJ;simp only[ht,hA,hx,hg,hr];exact h
  ·cases hk
 case h_5 =>
  rename_i ti i n j off ht hx;have hi:∀v,i∈SS ⟨d,.load t x,ty,pos,af,gd⟩ e b v:=λv=>WX (by simp[rE,Op.operands,jy,hx,dG])
  split at hk
  ·rename_i T s es hb;obtain⟨v,h1,h2⟩:=xG (b:=b) hk;refine⟨_,_,h1,λe' b' k' hA hB h=>?_⟩;have hb':=hB i (hi _);unfold bJ;simp only[ht,hA,hx,hb',hb];exact h2 k' h
  ·rename_i s es hb;obtain⟨v,h1,h2⟩:=xG (b:=b) hk;refine⟨_,_,h1,λe' b' k' hA hB h=>?_⟩;have hb':=hB i (hi _);unfold bJ;simp only[ht,hA,hx,hb',hb];exact h2 k' h
  ·cases hk
 case h_6=>cases hk
theorem Ya{o:Oper}(hτ:dN P τ=true)(hk:bJ (Den P) τ o e b k):∃v f,k v f∧∀{N:Nat} {w0:World} {X0:List Nat} {S:List Bx} {M:MM} {a:Act} {w:World} (e':Env) (b':aN),WOk P w0→Sta N w0 X0 S M a w e' b'→(∀x∈o.op.operands.toList,ae e' x=ae e x)→vW (SS o e b v) b b'→Good P w0 X0 S M a w o (λv' f'=>v'=v∧f'=f):=by
 obtain⟨d,op,ty,pos,af,gd⟩:=o
 have old:(∀v,SS ⟨d,op,ty,pos,af,gd⟩ e b v=qX ⟨d,op,ty,pos,af,gd⟩ e b)→∃v f,k v f∧∀{N:Nat} {w0:World} {X0:List Nat} {S:List Bx} {M:MM} {a:Act} {w:World} (e':Env) (b':aN),WOk P w0→Sta N w0 X0 S M a w e' b'→(∀x∈op.operands.toList,ae e' x=ae e x)→vW (SS ⟨d,op,ty,pos,af,gd⟩ e b v) b b'→Good P w0 X0 S M a w ⟨d,op,ty,pos,af,gd⟩ (λv' f'=>v'=v∧f'=f):=by
  intro hrd;obtain⟨v,f,h1,h2⟩:=Jg hk;refine⟨v,f,h1,fun {N w0 X0 S M a w} e' b' hwo h hA hB=>?_⟩
  haveI:WOk P w0:=hwo
  exact Dj hτ h (h2 e' b' (λv' f'=>v'=v∧f'=f) ⟨hA,by rw[hrd]at hB;exact hB⟩ ⟨rfl,rfl⟩)
 cases op with
 |load t x =>
  obtain⟨v,f,h1,h2⟩:=RD hk;refine⟨v,f,h1,fun {N w0 X0 S M a w} e' b' hwo h hA hB=>?_⟩
  haveI:WOk P w0:=hwo
  exact Dj hτ h (h2 e' b' (λv' f'=>v'=v∧f'=f) (hA x (by simp[Op.operands])) hB ⟨rfl,rfl⟩)
 |call c =>
  obtain⟨callee,xs,ts⟩:=c
  by_cases hlen:callee=.builtin .len
  ·subst hlen;obtain⟨vs,hv,hc⟩:=TY hk;have hta:∀{l:List TypeId},ts.toList=l→ts=l.toArray:=λh=>Dv (by simpa using h)
   have hops:∀{e':Env},(∀x∈(Op.call ⟨.builtin .len,xs,ts⟩).operands.toList,ae e' x=ae e x)→jd (λx=>ae e' x) xs.toList=some vs:=by
    intro e' hA;rw[←hv];exact pY λx hx=>hA x (by simp only[Op.operands,Call.operands];simp only[Array.toList_append];exact qC _ hx)
   cases hc with
   |lens s es t e1 s' b1 z h1 h2 h3 h4 hk1 =>
    subst h2;rw[hta h3]at hops ⊢;exact⟨_,_,hk1,λe' b' hwo h hA hB=>o8 (aT hτ h4) h (hops hA) (λu hu=>by obtain⟨A,cap,uss,ha,_⟩:=RepS.of_sl hu.sl_;exact⟨A,cap,ha⟩) ⟨rfl,rfl⟩⟩
   |lenstr s t h1 h2 h3 h4 hk1 =>
    subst h2;rw[hta h3]at hops ⊢;refine⟨_,_,hk1,λe' b' hwo h hA hB=>?_⟩;obtain⟨us,hu,hl,hr⟩:=qw h (hops hA)
    obtain⟨u,rfl⟩:∃u,us=[u]:=by
     match us,hl with
     |[u],_=>exact⟨u,rfl⟩
    have hue:=(hr 0 u _ rfl rfl).v_;subst hue;refine .val h.ms ⟨rfl,rfl⟩ (u:=.int .i64 s.size) ?_ (.d (.c (.v _ rfl)));simp[execOp,resolve,invoke,builtin,hu,Builtin.len_,run_underlying (RY (aT hτ h4)),goInt]
   |leng i n x s es t e1 s' b1 z h1 h2 h3 h4 h5 h6 h7 hk1 =>
    subst h2;rw[hta h3]at hops ⊢;exact⟨_,_,hk1,λe' b' hwo h hA hB=>o8 (aT hτ h6) h (hops hA) (λu hu=>by obtain⟨A,c,hq⟩:=hu.gs_len;exact⟨A,c,by rw[hq,h7]⟩) ⟨rfl,rfl⟩⟩
   |lenn t e1 s' b1 z h1 h2 h3 h4 hk1 =>
    subst h2;rw[hta h3]at hops ⊢;exact⟨_,_,hk1,λe' b' hwo h hA hB=>o8 (aT hτ h4) h (hops hA) (λu hu=>⟨none,0,hu.v_⟩) ⟨rfl,rfl⟩⟩
   |app0n t T s by_ z i h1=>cases h1
   |appn s es t T by_ z i n h1=>cases h1
   |fn f cap x h1=>cases h1
   |fnw f cap x i r h1=>cases h1
   |fns f cap x i n r h1=>cases h1
   |fnn f cap x r h1=>cases h1
   |app0 s es' t T by_ z i h1=>cases h1
   |app s es es' t T by_ z i n h1=>cases h1
   |app0g s c m es' f t T by_ z i h1=>cases h1
   |appg s c m es es' f t T by_ z i n h1=>cases h1
   |min ki n0 n1 ns r h1=>cases h1
   |max ki n0 n1 ns r h1=>cases h1
  ·refine old λv=>?_
   unfold SS;split
   ·rename_i heq;cases heq
   ·rename_i heq;simp only[Op.call.injEq,Call.mk.injEq]at heq;exact absurd heq.1 hlen
   ·rfl
 |_=>exact old λv=>rfl
end
end Go.Sw
namespace Go.Sw
open Go Go.RowKit
section
variable {P:Program} [Wld P] [Kp] [Gr] {τ:Tab} {N:Nat} {w0:World} {X0:List Nat} {S:List Bx} {M:MM} {a:Act} {w:World} {e:Env} {b:aN}
variable [WOk P w0]
theorem Fp{t s:Nat}{x:Value}(h:Lu t=true)(hs:(s,x)∈Kp.l):t≠s:=by
 have:=lU.1 h _ hs;rintro rfl;simp at this
theorem qB{a:Act}{t:Nat}{u:Value}(h:a.defers=[]∧∀t u,(t,u)∈Kp.l→a.tmps.getD t undef=u)(ht:DL N t):(a.put (some t) u).defers=[]∧∀s x,(s,x)∈Kp.l→(a.put (some t) u).tmps.getD s undef=x :=
 ⟨h.1,λs x hs=>by rw[bK u (Fp ht.2 hs)];exact h.2 s x hs⟩
theorem Sta.congr(h:Sta N w0 X0 S M a w e b){e':Env}{b':aN}(he:∀t,ld t e'=ld t e)(hb:∀i,ld i b'=ld i b):Sta N w0 X0 S M a w e' b' :=
 ⟨h.ms,h.x0,h.sz,h.df,λt v hv=>h.env t v (by rw[←he];exact hv),λi x hx=>h.box i x (by rw[←hb];exact hx)⟩
theorem Conc.congr(h:Conc N w0 X0 e b a w){e':Env}{b':aN}(he:∀t,ld t e'=ld t e)(hb:∀i,ld i b'=ld i b):Conc N w0 X0 e' b' a w:=by
 obtain⟨S,M,h⟩:=h;exact⟨S,M,h.congr he hb⟩
theorem aO{α:Type}(t:Nat)(v:α)(e:List (Nat×α)):ld t ((t,v)::e)=some v:=by simp[ld]
theorem aX{α:Type}{t s:Nat}(v:α)(e:List (Nat×α))(h:s≠t):ld t ((s,v)::e)=ld t e:=by simp[ld,dP h]
theorem H7(ids:List Nat):∀(e:Env) (t:Nat),ld t (kill ids e)=(ld t e).map λx=>cond ((dG x).any λb=>ids.elem b) .any x
 |[],t=>rfl
 |(s,v)::r,t=>by
  have ih:=H7 ids r t;unfold kill at ih ⊢;simp only[gY]
  by_cases hs:s=t
  ·subst hs;rw[aO];simp only[xP];cases hc:(dG v).any λb=>ids.elem b<;>exact aO _ _ _
  ·have e1:ld t ((cond ((dG v).any λb=>ids.elem b) (s,AV.any) (s,v))::List.map (λp=>cond ((dG p.2).any λb=>ids.elem b) (p.1,AV.any) p) r)=ld t (List.map (λp=>cond ((dG p.2).any λb=>ids.elem b) (p.1,AV.any) p) r):=by
    cases hc:(dG v).any λb=>ids.elem b<;>exact aX _ _ hs
   rw[e1,ih,aX _ _ hs]
theorem Sta.kill(h:Sta N w0 X0 S M a w e b)(ids:List Nat):Sta N w0 X0 S M a w (kill ids e) b:=by
 refine⟨h.ms,h.x0,h.sz,h.df,λt v hv=>?_,h.box⟩;rw[H7]at hv;cases hx:ld t e with
 |none=>simp[hx]at hv
 |some x =>
  simp only[hx,xP,nU]at hv;cases hc:(dG x).any λb=>ids.elem b with
  |true=>rw[hc]at hv;subst hv;exact .any
  |false=>rw[hc]at hv;subst hv;exact h.env t _ hx
theorem Ox{ids:List Nat}{t:Nat}{x:AV}(h:ld t (kill ids e)=some x):∀i∈dG x,i ∉ ids:=by
 intro i hi hm;rw[H7]at h;cases hx:ld t e with
 |none=>simp[hx]at h
 |some y =>
  simp only[hx,xP,nU]at h;cases hc:(dG y).any λb=>ids.elem b with
  |true=>rw[hc]at h;subst h;simp[dG]at hi
  |false =>
   rw[hc]at h;subst h;have:=KY.1 hc i hi;simp[hm]at this
theorem jQ{ids:List Nat}(hm:mention ids e=false){t:Nat}{x:AV}(h:ld t e=some x):∀i∈dG x,i ∉ ids:=by
 intro i hi hmi;have h1:=KY.1 hm _ (LJ h);simp only[List.any_eq_true,not_exists,not_and]at h1;exact h1 i hi (by simpa using hmi)
theorem Post.conc(h:Sta N w0 X0 S M a w e b){o:Oper}{v:AV}{f:aN}{u:Value}{w':World}(hp:Post w0 X0 S M w (pW o) v f u w')(hd:∀t,o.dst=some t→DL N t)(hno:∀t x,o.dst≠some t→ld t e=some x→∀i∈dG x,i ∉ pW o)(hnb:∀i x,ld i b=some x→∀c∈qZ x,c ∉ pW o):
 Conc N w0 X0 (wW o v e) (ups f b) (a.put o.dst u) w':=by
 obtain⟨S',M',h1,h2,h3,h4,h5,h6⟩:=hp;refine⟨S',M',h1,h.x0, ?_, ?_,λt x hx=>?_,λi x hx=>?_⟩
 ·cases hq:o.dst with
  |none=>exact h.sz
  |some t=>simp[Act.put,h.sz]
 ·cases hq:o.dst with
  |none=>exact⟨h.df.1,h.df.2.ext h2⟩
  |some t=>exact⟨qB h.df.1 (hd _ hq),h.df.2.ext h2⟩
 ·have old:o.dst≠some t→ld t e=some x→RepV w' (bl S'++X0) M' (a.tmps.getD t undef) x:=λhne hx=>(h.env t x hx).ext h2 λi hi m hm=>h5 i m hm (hno t x hne hx i hi)
  cases hq:o.dst with
  |none =>
   unfold wW at hx;rw[hq]at hx;exact old (by rw[hq];simp) hx
  |some s =>
   unfold wW at hx;rw[hq]at hx
   by_cases hs:s=t
   ·subst hs;rw[aO]at hx;cases hx;rw[dw u h.sz (hd _ hq).1];exact h3
   ·rw[aX _ _ hs]at hx;rw[bK u hs];exact old (by rw[hq];simpa using hs) hx
 ·rcases yB f b i x hx with hh|⟨hh,hx'⟩
  ·exact h6 i x hh
  ·obtain⟨m,k1,k2⟩:=h.box i x hx';exact⟨m,(h4 i hh).trans k1,k2.ext h2 λc hc mc hmc=>h5 c mc hmc (hnb i x hx' c hc)⟩
theorem je{ids:List Nat}:∀{b:aN},gZ ids b=false→∀i x,ld i b=some x→∀c∈qZ x,c ∉ ids
 |[],_,i,x,hx,_,_=>by simp[ld]at hx
 |(s,y)::r,hm,i,x,hx,c,hc=>by
  have h1:gZ ids r=false∧∀c∈qZ y,c ∉ ids:=by
   cases y<;>simp only[gZ,Bool.or_eq_false_iff]at hm<;>first|exact⟨hm,λc hc=>by simp[qZ]at hc⟩|skip
   refine⟨hm.2,λc hc hmc=>?_⟩;have:=KY.1 hm.1 c hc;simp[hmc]at this
  by_cases hs:s=i
  ·subst hs;rw[aO]at hx;cases hx;exact h1.2 c hc
  ·rw[aX _ _ hs]at hx;exact je h1.1 i x hx c hc
theorem Nv{ids:List Nat}{b:aN}{p:Prop}(h:NB ids b p):p∧∀i x,ld i b=some x→∀c∈qZ x,c ∉ ids:=by
 unfold NB at h;split at h
 ·exact⟨h,λi x hx c hc=>by simp⟩
 ·split at h
  ·rename_i hm;exact⟨h,je hm⟩
  ·cases h
theorem Ef(o:Oper):pW o=[]∨∃t j r,o.dst=some t∧pW o=j::r:=by
 unfold pW;cases AZ o.op with
 |false=>exact .inl rfl
 |true =>
  cases o.dst with
  |none=>exact .inl rfl
  |some t =>
   cases vS o.op with
   |true=>exact .inr ⟨t,_,_,rfl,rfl⟩
   |false=>exact .inr ⟨t,_,_,rfl,rfl⟩
theorem Post.concP(h:Sta N w0 X0 S M a w e b){o:Oper}{v:AV}{f:aN}{u:Value}{w':World}(hp:Post w0 X0 S M w (pW o) v f u w')(hd:∀t,o.dst=some t→DL N t)(hnb:∀i x,ld i b=some x→∀c∈qZ x,c ∉ pW o):
 Conc N w0 X0 (yt o v e) (ups f b) (a.put o.dst u) w':=by
 rcases Ef o with ha|⟨t,j,r,ht,ha⟩
 ·have:=hp.conc h hd (λt x _ _ i _=>by rw[ha];simp) hnb;refine this.congr (λs=>?_) (λ_=>rfl);unfold yt wW;cases hq:o.dst with
  |none=>rfl
  |some t=>simp only[ha]
 ·unfold yt;simp only[ht,ha];cases hm:mention (j::r) e with
  |true =>
   have:=hp.conc (h.kill (j::r)) hd (λs x _ hx i hi=>by rw[ha];exact Ox hx i hi) hnb;unfold wW at this;simpa only[ht]using this
  |false =>
   have:=hp.conc h hd (λs x _ hx i hi=>by rw[ha];exact jQ hm hx i hi) hnb;unfold wW at this;simpa only[ht]using this
def aaA(P:Program)(O:List Oper)(o:Oper)(a:Act)(w:World)(K:Act→World→Prop)(Q:Exit→Act→World→Prop):Prop :=
 (Region.wanted o (yielded O.toArray a.tmps)=true→o.wp P a w K Q)∧(Region.wanted o (yielded O.toArray a.tmps)=false→K (a.put o.dst undef) w)
theorem Dk{O:List Oper}{j t:Nat}{p:Bool}(ho:oH O j=some t)(ht:a.tmps.getD t undef=.bool p):yielded O.toArray a.tmps j=some p:=by
 unfold oH at ho;unfold yielded;cases hq:O[j]? with
 |none=>simp[hq]at ho
 |some o =>
  simp only[hq]at ho;simp only[Sl,hq,QJ,ho];cases hx:a.tmps[t]? with
  |none=>simp[Xh,hx,undef]at ht
  |some u=>simp[Xh,hx]at ht;simp[ht]
theorem CQ{O:List Oper}{j t:Nat}(ho:oH O j=some t)(ht:a.tmps.getD t undef=undef):yielded O.toArray a.tmps j=none:=by
 unfold oH at ho;unfold yielded;cases hq:O[j]? with
 |none=>simp[hq]
 |some o =>
  simp only[hq]at ho;simp only[Sl,hq,QJ,ho];cases hx:a.tmps[t]? with
  |none=>simp
  |some u=>simp[Xh,hx]at ht;simp[ht,undef]
theorem Sta.skip(h:Sta N w0 X0 S M a w e b){o:Oper}(hd:∀t,o.dst=some t→DL N t):Sta N w0 X0 S M (a.put o.dst undef) w (wW o .bad e) b:=by
 refine⟨h.ms,h.x0, ?_, ?_,λt x hx=>?_,h.box⟩
 ·cases hq:o.dst with
  |none=>exact h.sz
  |some t=>simp[Act.put,h.sz]
 ·cases hq:o.dst with
  |none=>exact h.df
  |some t=>exact⟨qB h.df.1 (hd _ hq),h.df.2⟩
 ·cases hq:o.dst with
  |none=>unfold wW at hx;rw[hq]at hx;exact h.env t x hx
  |some s =>
   unfold wW at hx;rw[hq]at hx
   by_cases hs:s=t
   ·subst hs;rw[aO]at hx;cases hx;rw[dw undef h.sz (hd _ hq).1];exact .bad rfl
   ·rw[aX _ _ hs]at hx;rw[bK undef hs];exact h.env t x hx
theorem Sta.skipP(h:Sta N w0 X0 S M a w e b){o:Oper}(hd:∀t,o.dst=some t→DL N t):Conc N w0 X0 (yt o .bad e) b (a.put o.dst undef) w:=by
 rcases Ef o with ha|⟨t,j,r,ht,ha⟩
 ·have:=h.skip hd;refine⟨S,M,this.congr (λs=>?_) (λ_=>rfl)⟩;unfold yt wW;cases hq:o.dst with
  |none=>rfl
  |some t=>simp only[ha]
 ·unfold yt;simp only[ht,ha];cases hm:mention (j::r) e with
  |true =>
   have:=(h.kill (j::r)).skip hd;unfold wW at this;simp only[ht]at this;exact⟨S,M,this⟩
  |false =>
   have:=h.skip hd;unfold wW at this;simp only[ht]at this;exact⟨S,M,this⟩
theorem Hu{t:Nat}{x:AV}(h:ld t e=some x):∀s,ld s ((t,x)::e)=ld s e:=λs=>by
 by_cases hs:t=s
 ·subst hs;rw[aO,h]
 ·rw[aX _ _ hs]
theorem KL{O:List Oper}{o:Oper}{k:Env→aN→Prop}(hτ:dN P τ=true)(hc:Conc N w0 X0 e b a w)(hd:∀t,o.dst=some t→DL N t)(hk:GN (Den P) τ O o e b λe v f _=>k (yt o v e) (ups f b))
 {K:Act→World→Prop} {Q:Exit→Act→World→Prop} (hK:∀e b a w,k e b→Conc N w0 X0 e b a w→K a w):aaA P O o a w K Q:=by
 obtain⟨S,M,h⟩:=hc
 have run:∀e,Sta N w0 X0 S M a w e b→NB (pW o) b (bJ (Den P) τ o e b λv f=>k (yt o v e) (ups f b))→o.wp P a w K Q:=by
  intro e h hk;obtain⟨hk,hnb⟩:=Nv hk;obtain⟨v,f,h1,h2⟩:=Dj hτ h hk;exact h2.wp λu w' hp=>hK _ _ _ _ h1 (hp.concP h hd hnb)
 have skip:∀e,Sta N w0 X0 S M a w e b→k (yt o .bad e) b→K (a.put o.dst undef) w:=by
  intro e h hk;exact hK _ _ _ _ hk (h.skipP hd)
 unfold GN at hk;cases hg:o.guard with
 |none =>
  simp only[hg]at hk;exact⟨λ_=>run e h hk,λhw=>by simp[Region.wanted,hg]at hw⟩
 |some jw =>
  obtain⟨j,want⟩:=jw;simp only[hg]at hk;cases hs:oH O j with
  |none=>simp[hs]at hk
  |some t =>
   simp only[hs]at hk;split at hk
   ·rename_i p hp;have hy:=Dk (a:=a) hs ((h.env t _ hp).v_)
    have hbr:(match p == want with
     |true=>NB (pW o) b (bJ (Den P) τ o ((t,.bool p)::e) b λv f=>k (yt o v ((t,.bool p)::e)) (ups f b))
     |false=>k (yt o .bad ((t,.bool p)::e)) (ups [] b)):=by
     cases p
     ·exact hk.f rfl
     ·exact hk.t rfl
    have h':=h.congr (Hu hp) (λ_=>rfl);cases hpw:p == want with
    |true =>
     simp only[hpw]at hbr;refine⟨λ_=>run _ h' hbr,λhw=>?_⟩;simp only[Region.wanted,hg,hy]at hw;have:=eq_of_beq hpw;subst this;simp at hw
    |false =>
     simp only[hpw]at hbr;refine⟨λhw=>?_,λ_=>skip _ h' hbr⟩;simp only[Region.wanted,hg,hy]at hw;have:p=want:=by simpa using hw
     subst this;simp at hpw
   ·rename_i hp
    have hu:a.tmps.getD t undef=undef:=by
     have:=h.env t _ hp;generalize hz:a.tmps.getD t undef=z at this;cases this with
     |d hd=>cases hd
     |bad hb=>exact hb
    have hy:=CQ (a:=a) hs hu;refine⟨λhw=>?_,λ_=>skip _ h hk⟩;simp[Region.wanted,hg,hy]at hw
   ·cases hk
theorem wY{O:List Oper}{Q:Exit→Act→World→Prop}{k:Env→aN→Prop}(hτ:dN P τ=true)(hQ:∀e b a w,k e b→Conc N w0 X0 e b a w→Q .normal a w):∀{l:List Oper} {e:Env} {b:aN} {a:Act} {w:World},yZ N l=true→AU (Den P) τ O l e b k→Conc N w0 X0 e b a w→wpList P O.toArray Q l a w
 |[],e,b,a,w,_,hk,hc=>hQ e b a w hk hc
 |o::r,e,b,a,w,hd,hk,hc=>by
  simp only[yZ,List.all_cons,eF]at hd;simp only[AU,GZ,uf]at hk
  have hdo:∀t,o.dst=some t→DL N t:=by
   intro t ht;have:=hd.1;rw[ht]at this;simpa[DL,Ew]using this
  have:=KL (k:=λe b=>AU (Den P) τ O r e b k) (K:=wpList P O.toArray Q r) (Q:=Q) hτ hc hdo hk (λe b a w hk hc=>wY hτ hQ (l:=r) hd.2 hk hc);unfold wpList;cases hw:Region.wanted o (yielded O.toArray a.tmps)with
  |true=>simp only[if_true];exact .inl (this.1 hw)
  |false=>simp only[Lc,if_false];exact this.2 hw
end
end Go.Sw
namespace Go.Sw
open Go Go.RowKit
section
variable {P:Program} [Wld P] [Kp] [Gr] {τ:Tab}
structure AnyOk (P:Program) [Wld P] (O:List Oper) (o:Oper) (e:Env) (b:aN) (v:AV) (f:aN) (lg:Lg):Prop where
 wr:lg.wr=f.map (·.1)
 al:∀i∈lg.al,i∈pW o
 ids:∀i∈dG v,i∈lg.mn∨i∈lg.al
 obs:∀i x,(i,x)∈f→∀c∈qZ x,c∈lg.mn
 go:∀(N:Nat) (w0:World) (X0:List Nat) (a:Act) (w:World) (e':Env) (b':aN),WOk P w0→Conc N w0 X0 e' b' a w→(∀t∈lZ O o,ld t e'=ld t e)→vW lg.rd b b'→(∀t,o.dst=some t→DL N t) →
  (∀t x,ld t e'=some x→∀i∈dG x,i ∉ lg.al)→(∀i x,ld i b'=some x→∀c∈qZ x,c ∉ lg.al)→∀(K:Act→World→Prop) (Q:Exit→Act→World→Prop),(∀a' w',Conc N w0 X0 (wW o v e') (ups f b') a' w'→K a' w')→aaA P O o a w K Q
theorem YU{O:List Oper}{o:Oper}{t:Nat}(h:Operand.tmp t∈o.op.operands.toList):t∈lZ O o:=by
 unfold lZ;exact xW _ (List.mem_flatMap.2 ⟨_,h,by simp⟩)
theorem Oh{O:List Oper}{o:Oper}{j t:Nat}{want:Bool}(h:o.guard=some (j,want))(hs:oH O j=some t):t∈lZ O o:=by
 unfold lZ;exact qC _ (by simp[h,hs])
theorem Ju:∀{f:aN} {i:Nat} {x:Bk},(i,x)∈f→∀c∈qZ x,c∈QD f
 |[],_,_,h,_,_=>by cases h
 |(j,y)::r,i,x,h,c,hc=>by
  rcases rF.1 h with h|h
  ·cases h;cases y<;>simp only[qZ]at hc<;>first|(cases hc;done)|skip
   simp only[QD];exact xW _ hc
  ·have:=Ju h c hc;cases y<;>simp only[QD]<;>first|exact this|exact qC _ this
theorem Xr{O:List Oper}{o:Oper}{e:Env}{b:aN}{k:Env→AV→aN→Lg→Prop}(hτ:dN P τ=true)(hk:GN (Den P) τ O o e b k):∃e₀ v f lg,k e₀ v f lg∧(∀t,ld t e₀=ld t e)∧AnyOk P O o e b v f lg:=by
 have run:∀e₀,(∀t,ld t e₀=ld t e)→NB (pW o) b (bJ (Den P) τ o e₀ b λv f=>k e₀ v f (Lh o e₀ b v f))→(∀(N:Nat) (w0:World) (X0:List Nat) (a:Act) (w:World) (e':Env) (b':aN),Conc N w0 X0 e' b' a w→(∀t∈lZ O o,ld t e'=ld t e)→Region.wanted o (yielded O.toArray a.tmps)=true) →
  ∃e₀ v f lg,k e₀ v f lg∧(∀t,ld t e₀=ld t e)∧AnyOk P O o e b v f lg:=by
  intro e₀ he hk hw;obtain⟨hk,_⟩:=Nv hk;obtain⟨v,f,h1,h2⟩:=Ya hτ hk;refine⟨e₀,v,f,_,h1,he,rfl,λi hi=>hi,λi hi=>?_,λi x hx c hc=>qC _ (Ju hx c hc), ?_⟩
  ·simp only[Lh]
   by_cases hm:i∈pW o
   ·exact .inr hm
   ·exact .inl (xW _ (qC _ (Af.2 ⟨hi,by simpa using hm⟩)))
  ·intro N w0 X0 a w e' b' hwo hc hs hB hd hno hnb K Q hK
   haveI:WOk P w0:=hwo
   have hwt:=hw N w0 X0 a w e' b' hc hs;refine⟨λ_=>?_,λh=>(by rw[hwt]at h;cases h)⟩;obtain⟨S,M,h⟩:=hc
   have hA:∀x∈o.op.operands.toList,ae e' x=ae e₀ x:=by
    intro x hx;cases x with
    |tmp t=>simp only[ae];rw[hs t (YU hx),he]
    |const v=>rfl
    |global g=>rfl
    |func f=>rfl
   obtain⟨v',f',⟨rfl,rfl⟩,hD⟩:=h2 e' b' hwo h hA hB;exact hD.wp λu w' hp=>hK _ _ (hp.conc h hd (λt x _ hx=>hno t x hx) hnb)
 have skip:∀e₀,(∀t,ld t e₀=ld t e)→k e₀ .bad [] ⟨[],[],[],[]⟩→(∀(N:Nat) (w0:World) (X0:List Nat) (a:Act) (w:World) (e':Env) (b':aN),Conc N w0 X0 e' b' a w→(∀t∈lZ O o,ld t e'=ld t e)→Region.wanted o (yielded O.toArray a.tmps)=false) →
  ∃e₀ v f lg,k e₀ v f lg∧(∀t,ld t e₀=ld t e)∧AnyOk P O o e b v f lg:=by
  intro e₀ he hk hw;refine⟨e₀,_,_,_,hk,he,rfl,λi hi=>(by simp at hi),λi hi=>(by simp[dG]at hi),λi x hx=>(by cases hx), ?_⟩;intro N w0 X0 a w e' b' hwo hc hs hB hd hno hnb K Q hK;have hwt:=hw N w0 X0 a w e' b' hc hs;refine⟨λh=>(by rw[hwt]at h;cases h),λ_=>?_⟩;obtain⟨S,M,h⟩:=hc;have hp:Post w0 X0 S M w [] .bad [] undef w:=Post.pure h.ms (.bad rfl);refine hK _ _ ⟨S,M,h.ms,h.x0, ?_, ?_,λt x hx=>?_,h.box⟩
  ·cases hq:o.dst with
   |none=>exact h.sz
   |some t=>simp[Act.put,h.sz]
  ·cases hq:o.dst with
   |none=>exact h.df
   |some t=>exact⟨qB h.df.1 (hd _ hq),h.df.2⟩
  ·cases hq:o.dst with
   |none=>unfold wW at hx;rw[hq]at hx;exact h.env t x hx
   |some s =>
    unfold wW at hx;rw[hq]at hx
    by_cases hs:s=t
    ·subst hs;rw[aO]at hx;cases hx;rw[dw undef h.sz (hd _ hq).1];exact .bad rfl
    ·rw[aX _ _ hs]at hx;rw[bK undef hs];exact h.env t x hx
 unfold GN at hk;cases hg:o.guard with
 |none =>
  simp only[hg]at hk;exact run e (λ_=>rfl) hk (λ_ _ _ _ _ _ _ _ _=>by simp[Region.wanted,hg])
 |some jw =>
  obtain⟨j,want⟩:=jw;simp only[hg]at hk;cases hs:oH O j with
  |none=>simp[hs]at hk
  |some t =>
   simp only[hs]at hk;split at hk
   ·rename_i p hp
    have hbr:(match p == want with
     |true=>NB (pW o) b (bJ (Den P) τ o ((t,.bool p)::e) b λv f=>k ((t,.bool p)::e) v f (Lh o ((t,.bool p)::e) b v f))
     |false=>k ((t,.bool p)::e) .bad [] ⟨[],[],[],[]⟩):=by
     cases p
     ·exact hk.f rfl
     ·exact hk.t rfl
    have hy:∀(N:Nat) (w0:World) (X0:List Nat) (a:Act) (w:World) (e':Env) (b':aN),Conc N w0 X0 e' b' a w→(∀t∈lZ O o,ld t e'=ld t e)→yielded O.toArray a.tmps j=some p:=by
     intro N w0 X0 a w e' b' hc hsl;obtain⟨S,M,h⟩:=hc;exact Dk hs ((h.env t _ ((hsl t (Oh hg hs)).trans hp)).v_)
    cases hpw:p == want with
    |true =>
     simp only[hpw]at hbr;refine run _ (Hu hp) hbr (λN w0 X0 a w e' b' hc hsl=>?_);simp only[Region.wanted,hg,hy N w0 X0 a w e' b' hc hsl];have:=eq_of_beq hpw;subst this;simp
    |false =>
     simp only[hpw]at hbr;refine skip _ (Hu hp) hbr (λN w0 X0 a w e' b' hc hsl=>?_);simp only[Region.wanted,hg,hy N w0 X0 a w e' b' hc hsl];cases p<;>cases want<;>first|rfl|cases hpw
   ·rename_i hp;refine skip e (λ_=>rfl) hk (λN w0 X0 a w e' b' hc hsl=>?_);obtain⟨S,M,h⟩:=hc
    have hu:a.tmps.getD t undef=undef:=by
     have:=h.env t _ ((hsl t (Oh hg hs)).trans hp);generalize hz:a.tmps.getD t undef=z at this;cases this with
     |d hd=>cases hd
     |bad hb=>exact hb
    simp[Region.wanted,hg,CQ (a:=a) hs hu]
   ·cases hk
structure TrE where
 o:Oper
 v:AV
 f:aN
 lg:Lg
def FF:List TrE→(Nat→Bool)→Env→Env
 |[],_,e=>e
 |x::r,ls,e=>FF r (λj=>ls (j+1)) (if ls 0 then wW x.o x.v e else e)
def GG:List TrE→(Nat→Bool)→aN→aN
 |[],_,b=>b
 |x::r,ls,b=>GG r (λj=>ls (j+1)) (if ls 0 then ups x.f b else b)
theorem pq{o:Oper}{v:AV}{e:Env}{t:Nat}(h:o.dst≠some t):ld t (wW o v e)=ld t e:=by
 unfold wW;cases hq:o.dst with
 |none=>rfl
 |some s=>exact aX _ _ (λhs=>h (by rw[hq,hs]))
theorem pG{o:Oper}{v:AV}{e:Env}{t:Nat}(h:o.dst=some t):ld t (wW o v e)=some v:=by
 unfold wW;simp only[h];exact aO _ _ _
theorem wU{o:Oper}{v:AV}{e e':Env}{t:Nat}(h:ld t e=ld t e'):ld t (wW o v e)=ld t (wW o v e'):=by
 by_cases hd:o.dst=some t
 ·rw[pG hd,pG hd]
 ·rw[pq hd,pq hd,h]
theorem oQ{α:Type}:∀{f:List (Nat×α)} {b:List (Nat×α)} {i:Nat},i ∉ f.map (·.1)→ld i (ups f b)=ld i b
 |[],b,i,_=>rfl
 |(t,x)::r,b,i,h=>by
  simp only[gY,rF,not_or]at h;simp only[ups];rw[oQ h.2,oC,if_neg h.1]
theorem yV{α:Type}:∀{f:List (Nat×α)} {b b':List (Nat×α)} {i:Nat},i∈f.map (·.1)→ld i (ups f b)=ld i (ups f b')
 |[],b,b',i,h=>by simp at h
 |(t,x)::r,b,b',i,h=>by
  simp only[ups]
  by_cases hr:i∈r.map (·.1)
  ·exact yV hr
  ·have:i=t:=by simp only[gY,rF]at h;rcases h with h|h;exact h;exact absurd h hr
   subst this;rw[oQ hr,oQ hr,oC,oC,if_pos rfl,if_pos rfl]
theorem qI{t:Nat}:∀{tr:List TrE} {ls ls':Nat→Bool} {e e':Env},(∀(j:Nat) x,tr[j]?=some x→x.o.dst=some t→ls j=ls' j)→ld t e=ld t e'→ld t (FF tr ls e)=ld t (FF tr ls' e')
 |[],_,_,_,_,_,h=>h
 |x::r,ls,ls',e,e',hl,h=>by
  simp only[FF];refine qI (tr:=r) (λj y hy hd=>hl (j+1) y (by simpa using hy) hd) ?_
  by_cases hd:x.o.dst=some t
  ·rw[hl 0 x rfl hd];split
   ·exact wU h
   ·exact h
  ·have h1:∀(c:Bool) (e:Env),ld t (if c then wW x.o x.v e else e)=ld t e:=by
    intro c e;split
    ·exact pq hd
    ·rfl
   rw[h1,h1,h]
theorem wG{i:Nat}:∀{tr:List TrE} {ls ls':Nat→Bool} {b b':aN},(∀(j:Nat) x,tr[j]?=some x→i∈x.f.map (·.1)→ls j=ls' j)→ld i b=ld i b'→ld i (GG tr ls b)=ld i (GG tr ls' b')
 |[],_,_,_,_,_,h=>h
 |x::r,ls,ls',b,b',hl,h=>by
  simp only[GG];refine wG (tr:=r) (λj y hy hd=>hl (j+1) y (by simpa using hy) hd) ?_
  by_cases hd:i∈x.f.map (·.1)
  ·rw[hl 0 x rfl hd];split
   ·exact yV hd
   ·exact h
  ·have h1:∀(c:Bool) (b:aN),ld i (if c then ups x.f b else b)=ld i b:=by
    intro c b;split
    ·exact oQ hd
    ·rfl
   rw[h1,h1,h]
theorem zX:∀{tr:List TrE} {e:Env},FF tr (λ_=>false) e=e
 |[],_=>rfl
 |x::r,e=>by simp only[FF,Lc,if_false];exact zX
theorem Aw:∀{tr:List TrE} {b:aN},GG tr (λ_=>false) b=b
 |[],_=>rfl
 |x::r,e=>by simp only[GG,Lc,if_false];exact Aw
theorem OW{t:Nat}:∀{tr:List TrE} {ls:Nat→Bool} {e:Env} {i:Nat} {x:TrE},tr[i]?=some x→x.o.dst=some t→ls i=true→(∀(j:Nat) y,i<j→tr[j]?=some y→y.o.dst=some t→ls j=false)→ld t (FF tr ls e)=some x.v
 |[],_,_,i,x,h,_,_,_=>by simp at h
 |y::r,ls,e,0,x,h,hd,hl,hn=>by
  have:y=x:=by simpa using h
  subst this;simp only[FF,hl,if_true];rw[qI (ls':=λ_=>false) (e':=wW y.o y.v e) (λj z hz hzd=>hn (j+1) z (by omega) (by simpa using hz) hzd) rfl,zX,pG hd]
 |y::r,ls,e,i+1,x,h,hd,hl,hn=>by
  simp only[FF];exact OW (by simpa using h) hd hl (λj z hj hz hzd=>hn (j+1) z (by omega) (by simpa using hz) hzd)
theorem PW{c:Nat}{b0:aN}:∀{tr:List TrE} {ls:Nat→Bool} {b:aN} {i:Nat} {x:TrE},tr[i]?=some x→c∈x.f.map (·.1)→ls i=true→(∀(j:Nat) y,i<j→tr[j]?=some y→c∈y.f.map (·.1)→ls j=false)→ld c (GG tr ls b)=ld c (ups x.f b0)
 |[],_,_,i,x,h,_,_,_=>by simp at h
 |y::r,ls,b,0,x,h,hd,hl,hn=>by
  have:y=x:=by simpa using h
  subst this;simp only[GG,hl,if_true];rw[wG (ls':=λ_=>false) (b':=ups y.f b) (λj z hz hzd=>hn (j+1) z (by omega) (by simpa using hz) hzd) rfl,Aw];exact yV hd
 |y::r,ls,b,i+1,x,h,hd,hl,hn=>by
  simp only[GG];exact PW (by simpa using h) hd hl (λj z hj hz hzd=>hn (j+1) z (by omega) (by simpa using hz) hzd)
theorem aa3{tr:List TrE}{ls:Nat→Bool}{e:Env}{i:Nat}{x:TrE}(hi:tr[i]?=some x)(hn:∀(j:Nat) y t,i<j→tr[j]?=some y→x.o.dst=some t→y.o.dst=some t→ls j=false)(t:Nat):
 ld t (FF tr (λj=>Nat.beq j i||ls j) e)=ld t (wW x.o x.v (FF tr ls e)):=by
 by_cases hd:x.o.dst=some t
 ·rw[pG hd];refine OW hi hd (by simp) (λj y hj hy hyd=>?_);rw[dP (by omega),hn j y t hj hy hd hyd];rfl
 ·rw[pq hd];refine qI (λj y hy hyd=>?_) rfl;have:j≠i:=by rintro rfl;rw[hi]at hy;cases hy;exact hd hyd
  rw[dP this];rfl
theorem acY{tr:List TrE}{ls:Nat→Bool}{b:aN}{i:Nat}{x:TrE}(hi:tr[i]?=some x)(hn:∀(j:Nat) y c,i<j→tr[j]?=some y→c∈x.f.map (·.1)→c∈y.f.map (·.1)→ls j=false)(c:Nat):
 ld c (GG tr (λj=>Nat.beq j i||ls j) b)=ld c (ups x.f (GG tr ls b)):=by
 by_cases hd:c∈x.f.map (·.1)
 ·refine PW hi hd (by simp) (λj y hj hy hyd=>?_);rw[dP (by omega),hn j y c hj hy hd hyd];rfl
 ·rw[oQ hd];refine wG (λj y hy hyd=>?_) rfl;have:j≠i:=by rintro rfl;rw[hi]at hy;cases hy;exact hd hyd
  rw[dP this];rfl
theorem Oq{t:Nat}{y:AV}:∀{tr:List TrE} {ls:Nat→Bool} {e:Env},ld t (FF tr ls e)=some y→ld t e=some y∨∃(j:Nat) (x:TrE),tr[j]?=some x∧ls j=true∧y=x.v
 |[],_,_,h => .inl h
 |x::r,ls,e,h=>by
  simp only[FF]at h;rcases Oq h with h1|⟨j,z,h1,h2,h3⟩
  ·split at h1
   ·rename_i hl
    by_cases hd:x.o.dst=some t
    ·rw[pG hd]at h1;cases h1;exact .inr ⟨0,x,rfl,hl,rfl⟩
    ·rw[pq hd]at h1;exact .inl h1
   ·exact .inl h1
  ·exact .inr ⟨j+1,z,by simpa using h1,h2,h3⟩
theorem TL{α:Type}{i:Nat}{y:α}:∀{f l:List (Nat×α)},ld i (ups f l)=some y→(i,y)∈f∨ld i l=some y:=fun {f l} h=>by
 rcases yB f l i y h with h1|⟨_,h1⟩
 ·exact .inl h1
 ·exact .inr h1
theorem OH{i:Nat}{y:Bk}:∀{tr:List TrE} {ls:Nat→Bool} {b:aN},ld i (GG tr ls b)=some y→ld i b=some y∨∃(j:Nat) (x:TrE),tr[j]?=some x∧ls j=true∧(i,y)∈x.f
 |[],_,_,h => .inl h
 |x::r,ls,b,h=>by
  simp only[GG]at h;rcases OH h with h1|⟨j,z,h1,h2,h3⟩
  ·split at h1
   ·rename_i hl;rcases TL h1 with h2|h2
    ·exact .inr ⟨0,x,rfl,hl,h2⟩
    ·exact .inl h2
   ·exact .inl h1
  ·exact .inr ⟨j+1,z,by simpa using h1,h2,h3⟩
theorem EZ{O:List Oper}(hτ:dN P τ=true):∀{l:List Oper} {e:Env} {b:aN} {lg0:List Lg} {k:Env→aN→List Lg→Prop},JQ (Den P) τ O l e b lg0 k →
 ∃(tr:List TrE) (eN:Env) (bN:aN),tr.map (·.o)=l∧k eN bN (lg0++tr.map (·.lg))∧(∀t,ld t eN=ld t (FF tr (λ_=>true) e))∧(∀i,ld i bN=ld i (GG tr (λ_=>true) b)) ∧
  ∀(i:Nat) x,tr[i]?=some x→AnyOk P O x.o (FF tr (λj=>decide (j<i)) e) (GG tr (λj=>decide (j<i)) b) x.v x.f x.lg
 |[],e,b,lg0,k,hk=>⟨[],e,b,rfl,by simp only[JQ]at hk;simpa using hk,λ_=>rfl,λ_=>rfl,λi x h=>by simp at h⟩
 |o::r,e,b,lg0,k,hk=>by
  simp only[JQ,Uh,uf]at hk;obtain⟨e₀,v,f,lg,h1,he,hA⟩:=Xr hτ hk;obtain⟨tr,eN,bN,q1,q2,q3,q4,q5⟩:=EZ hτ h1;have hap:∀t,ld t (wW o v e₀)=ld t (wW o v e):=λt=>wU (he t)
  refine⟨⟨o,v,f,lg⟩::tr,eN,bN,by simp[q1],by simpa using q2,λt=>?_,λi=>?_,λi x hx=>?_⟩
  ·rw[q3];simp only[FF,if_true];exact qI (λ_ _ _ _=>rfl) (hap t)
  ·rw[q4];simp only[GG,if_true]
  ·cases i with
   |zero =>
    have:(⟨o,v,f,lg⟩:TrE)=x:=by simpa using hx
    subst this;simp only[FF,GG,Sv,decide_false,Lc,if_false];rw[zX,Aw];exact hA
   |succ i =>
    have h5:=q5 i x (by simpa using hx);have e1:(λj=>decide (j+1<i+1))=λj=>decide (j<i):=by funext j;simp
    simp only[FF,GG,Nat.zero_lt_succ,decide_true,if_true,e1];refine⟨h5.wr,h5.al,h5.ids,h5.obs,λN w0 X0 a w e' b' hwo hc hs hB hd hno hnb K Q hK=>h5.go N w0 X0 a w e' b' hwo hc (λt ht=>(hs t ht).trans (qI (λ_ _ _ _=>rfl) (hap t).symm)) hB hd hno hnb K Q hK⟩
end
end Go.Sw
namespace Go.Sw
open Go Go.RowKit
def ahF(o:Oper)(acc:List Nat):Nat:=o.after.toList.foldl (λm e=>cond (Region.binds .any e) (m ||| 2^e.on ||| acc.getD e.on 0) m) 0
theorem EY:∀(O:List Oper) (acc:List Nat),(∃rest,jP O acc=acc++rest)∧∀(j:Nat) o,O[j]?=some o→∃acc',acc'.length=acc.length+j∧(∃rest,jP O acc=acc'++rest)∧(jP O acc).getD (acc.length+j) 0=ahF o acc'
 |[],acc=>⟨⟨[],by simp[jP]⟩,λj o h=>by simp at h⟩
 |x::r,acc=>by
  obtain⟨⟨rest,h1⟩,h2⟩:=EY r (acc++[ahF x acc]);have hx:jP (x::r) acc=jP r (acc++[ahF x acc]):=rfl;refine⟨⟨ahF x acc::rest,by rw[hx,h1];simp⟩,λj o hj=>?_⟩;cases j with
  |zero =>
   have:x=o:=by simpa using hj
   subst this;refine⟨acc,by simp,⟨ahF x acc::rest,by rw[hx,h1];simp⟩, ?_⟩;rw[hx,h1];simp[List.getD]
  |succ j =>
   obtain⟨acc',q1,q2,q3⟩:=h2 j o (by simpa using hj);refine⟨acc',by simp at q1;omega,by rw[hx];exact q2, ?_⟩;rw[hx,←q3];congr 1;simp;omega
theorem testBit_fold(acc:List Nat)(i:Nat):∀(l:List Edge) (m:Nat),Nat.testBit (l.foldl (λm e=>cond (Region.binds .any e) (m ||| 2^e.on ||| acc.getD e.on 0) m) m) i=true →
 Nat.testBit m i=true∨∃e∈l,Region.binds .any e=true∧(e.on=i∨Nat.testBit (acc.getD e.on 0) i=true)
 |[],m,h => .inl h
 |e::r,m,h=>by
  simp only[List.foldl_cons]at h;rcases testBit_fold acc i r _ h with h1|⟨e',he',hb,h1⟩
  ·cases hb:Region.binds .any e with
   |false=>rw[hb]at h1;exact .inl h1
   |true =>
    rw[hb]at h1;simp only[cond_true,Nat.testBit_or,G7]at h1;rcases h1 with(h1|h1)|h1
    ·exact .inl h1
    ·rw[Nat.testBit_two_pow]at h1;exact .inr ⟨e,by simp,hb,.inl (by simpa using h1)⟩
    ·exact .inr ⟨e,by simp,hb,.inr h1⟩
  ·exact .inr ⟨e',by simp[he'],hb,h1⟩
def DC(O:List Oper)(ls:Nat→Bool):Prop:=∀(j:Nat) (o:Oper),O[j]?=some o→ls j=true→∀e∈o.after,Region.binds .any e=true→ls e.on=true
theorem Bj{O:List Oper}{ls:Nat→Bool}(hc:DC O ls):∀(j:Nat) (o:Oper),O[j]?=some o→(∀e∈o.after,Region.binds .any e=true→ls e.on=true)→∀i,Nat.testBit ((jP O []).getD j 0) i=true→ls i=true:=by
 intro j;induction j using Nat.strongRecOn with
 |_ j ih =>
  intro o ho hr i hi;obtain⟨acc',q1,⟨rest,q2⟩,q3⟩:=(EY O []).2 j o ho;simp only[jB,uX]at q1 q3;rw[q3]at hi;rcases testBit_fold acc' i _ 0 hi with h|⟨e,he,hb,h⟩
  ·simp at h
  ·have hon:=hr e (by simpa using he) hb;rcases h with h|h
   ·rw[←h];exact hon
   ·have hlt:e.on<j:=by
     rcases D7 e.on j with h1|h1
     ·exact h1
     ·have:acc'.getD e.on 0=0:=by simp[List.getD,List.getElem?_eq_none (show acc'.length≤e.on by omega)]
      rw[this]at h;simp at h
    have hsame:(jP O []).getD e.on 0=acc'.getD e.on 0:=by
     rw[q2];simp only[List.getD,Nr (show e.on<acc'.length by omega)]
    rw[←hsame]at h;have hO:e.on<O.length:=by have:=(mG.1 ho).1;omega
    exact ih e.on hlt O[e.on] (jg hO) (hc e.on _ (jg hO) hon) i h
section
variable {P:Program} [Wld P] [Kp] [Gr] {τ:Tab} {Q:Exit→Act→World→Prop}
theorem Conc.drew{N:Nat}{w0:World}{X0:List Nat}{e:Env}{b:aN}{a:Act}{w:World}(h:Conc N w0 X0 e b a w):Conc N w0 X0 e b a w.drew:=by
 obtain⟨S,M,h⟩:=h;have hx:=Ext.drew w (bl S++X0)
 exact⟨S,M,⟨h.ms.st.drew,h.ms.gh.kept (λ_ _ _ h=>h),h.ms.inS,h.ms.inj⟩,h.x0,h.sz,⟨h.df.1,h.df.2.ext hx⟩,λt v hv=>(h.env t v hv).ext hx λi _ m hm=>⟨m,hm,Comp.refl m⟩,λi x hx'=>by
  obtain⟨m,h1,h2⟩:=h.box i x hx'
  exact⟨m,h1,h2.ext0 hx⟩⟩
theorem PZ{O:List Oper}{i:Nat}{o:Oper}(ho:O[i]?=some o){c:Nat}(hc:c∈pW o):c∈als O:=List.mem_flatMap.2 ⟨o,LV ho,hc⟩
theorem YE{O:List Oper}{e:Env}{t:Nat}{x:AV}(h:ld t (prep O e)=some x):∀i∈dG x,i ∉ als O:=by
 unfold prep at h;cases hm:mention (als O) e with
 |true=>rw[hm]at h;exact Ox h
 |false=>rw[hm]at h;exact jQ hm h
theorem Conc.prep{N:Nat}{w0:World}{X0:List Nat}{e:Env}{b:aN}{a:Act}{w:World}(h:Conc N w0 X0 e b a w)(O:List Oper):Conc N w0 X0 (prep O e) b a w:=by
 obtain⟨S,M,h⟩:=h;unfold Sw.prep;split
 ·exact⟨S,M,h.kill _⟩
 ·exact⟨S,M,h⟩
theorem XY{N:Nat}{w0:World}{X0:List Nat}{e:Env}{b:aN}{a:Act}{w:World}{O:List Oper}{id:Nat}{k:Env→aN→Prop}(hwo:WOk P w0)(hτ:dN P τ=true)(hm:P.follows .mixedOrders=true)(hac:MV O=true)(hso:Qd O=true)(hdl:yZ N O=true)
 (hc:Conc N w0 X0 e b a w) (hk:GU (Den P) τ true O e b k) (hQ:∀e b a w,k e b→Conc N w0 X0 e b a w→Q .normal a w):(Code.region id O.toArray true).wp P Q a w:=by
 simp only[GU,JU]at hk;obtain⟨hk,hnB⟩:=Nv hk;obtain⟨tr,eN,bN,q1,⟨q2,q2'⟩,q3,q4,q5⟩:=EZ hτ hk;simp only[vJ]at q2;have hlen:tr.length=O.length:=by rw[←q1];simp
 have hat:∀{i:Nat} {o:Oper},O[i]?=some o→∃x,tr[i]?=some x∧x.o=o:=by
  intro i o ho;rw[←q1,zQ]at ho;cases hx:tr[i]? with
  |none=>simp[hx]at ho
  |some x=>simp[hx]at ho;exact⟨x,rfl,ho⟩
 have hat':∀{i:Nat} {x:TrE},tr[i]?=some x→O[i]?=some x.o:=by
  intro i x hx;rw[←q1,zQ,hx];rfl
 have hdst:∀{i:Nat} {o:Oper},O[i]?=some o→∀t,o.dst=some t→DL N t:=by
  intro i o ho t ht;have:=lU.1 hdl o (LV ho);rw[ht]at this;simpa[DL,Ew]using this
 have pairS:∀{i j:Nat} {x y:TrE},i<j→tr[i]?=some x→tr[j]?=some y→Nat.testBit ((jP O []).getD j 0) i=true ∨
  ((∀t,x.o.dst=some t→t ∉ lZ O y.o∧y.o.dst≠some t)∧∀t,y.o.dst=some t→t ∉ lZ O x.o):=by
  intro i j x y hij hx hy;have hjl:j<O.length:=by rw[←hlen];exact(mG.1 hy).1
  have h1:=lU.1 (lU.1 hso j (by simpa using hjl)) i (by simpa using hij);simp only[hat' hx,hat' hy,G7,eF]at h1;rcases h1 with h1|⟨h1,h2⟩
  ·exact .inl h1
  ·refine .inr ⟨λt ht=>?_,λt ht=>?_⟩
   ·rw[ht]at h1;simp only[eF,BR]at h1;refine⟨λhm=>?_,λhe=>?_⟩
    ·have:=h1.1;simp[hm]at this
    ·have:=h1.2;rw[he]at this;simp at this
   ·rw[ht]at h2;simp only[BR]at h2;intro hm;simp[hm]at h2
 have pairB:∀{i j:Nat} {x y:TrE},i<j→tr[i]?=some x→tr[j]?=some y→(∀c∈y.lg.al,c ∉ x.lg.mn∧c ∉ x.lg.al)∧(Nat.testBit ((jP O []).getD j 0) i=true ∨
  ((∀c∈x.lg.rd,c ∉ y.lg.wr)∧(∀c∈x.lg.wr,c ∉ y.lg.rd∧c ∉ y.lg.wr)∧∀c∈x.lg.al,c ∉ y.lg.mn)):=by
  intro i j x y hij hx hy;have hjl:j<(tr.map (·.lg)).length:=by simpa using(mG.1 hy).1
  have h1:=lU.1 (lU.1 q2 j (by simpa using hjl)) i (by simpa using hij);simp only[zQ,hx,hy,xP,eF,G7,BR]at h1;refine⟨λc hc=>?_, ?_⟩
  ·have:=KY.1 h1.1 c hc;simpa using this
  ·rcases h1.2 with h2|h2
   ·exact .inl h2
   ·unfold apart at h2;simp only[BR,Bool.or_eq_false_iff]at h2;refine .inr ⟨λc hc=>?_,λc hc=>?_,λc hc=>?_⟩
    ·have:=KY.1 h2.1.1 c hc;simpa using this
    ·have:=KY.1 h2.1.2 c hc;simpa using this
    ·have:=KY.1 h2.2 c hc;simpa using this
 refine yL hm hac (λls a w=>DC O ls∧Conc N w0 X0 (FF tr ls (prep O e)) (GG tr ls b) a w) ⟨λ_ _ _ h=>(by cases h), ?_⟩ ?_ ?_
 ·rw[zX,Aw];exact(hc.prep O).drew
 ·rintro ls a w i o ⟨hdc,hcc⟩ ho hi hpre;obtain⟨x,hx,rfl⟩:=hat ho;have hbefore:∀{j:Nat} {y:TrE},j<i→tr[j]?=some y→Nat.testBit ((jP O []).getD i 0) j=true→ls j=true:=λhji hy hb=>Bj hdc i x.o ho hpre _ hb
  have hafter:∀{j:Nat} {y:TrE},i<j→tr[j]?=some y→Nat.testBit ((jP O []).getD j 0) i=true→ls j=false:=by
   intro j y hij hy hb;cases hl:ls j with
   |false=>rfl
   |true =>
    have:=Bj hdc j y.o (hat' hy) (hdc j y.o (hat' hy) hl) i hb;rw[hi]at this;cases this
  have hany:=q5 i x hx;have hgo:=hany.go N w0 X0 a w (FF tr ls (prep O e)) (GG tr ls b) hwo hcc (λt ht=>?_) (λc hcr=>?_) (hdst ho) (λt y hy c hcy hcal=>?_) (λbi y hy c hcy hcal=>?_) (λa' w'=>DC O (λj=>Nat.beq j i||ls j)∧Conc N w0 X0 (FF tr (λj=>Nat.beq j i||ls j) (prep O e)) (GG tr (λj=>Nat.beq j i||ls j) b) a' w') Q (λa' w' hc'=>⟨?_, ?_⟩)
  ·unfold wpOp;simp only[Sl,ho];cases hw:Region.wanted x.o (yielded O.toArray a.tmps)with
   |true=>simp only[if_true];exact .inl (hgo.1 hw)
   |false=>simp only[Lc,if_false];exact hgo.2 hw
  ·refine qI (λj y hy hyd=>?_) rfl;rcases Nat.lt_trichotomy j i with hji|rfl|hij
   ·rw[decide_eq_true hji];rcases pairS hji hy hx with hb|⟨h1,_⟩
    ·exact hbefore hji hy hb
    ·exact absurd ht (h1 t hyd).1
   ·rw[hi];simp
   ·rw[decide_eq_false (by omega)];rcases pairS hij hx hy with hb|⟨_,h2⟩
    ·exact hafter hij hy hb
    ·exact absurd ht (h2 t hyd)
  ·refine wG (λj y hy hyd=>?_) rfl;have hyw:c∈y.lg.wr:=by rw[(q5 j y hy).wr];exact hyd
   rcases Nat.lt_trichotomy j i with hji|rfl|hij
   ·rw[decide_eq_true hji];rcases(pairB hji hy hx).2 with hb|⟨_,h2,_⟩
    ·exact hbefore hji hy hb
    ·exact absurd hcr (h2 c hyw).1
   ·rw[hi];simp
   ·rw[decide_eq_false (by omega)];rcases(pairB hij hx hy).2 with hb|⟨h1,_,_⟩
    ·exact hafter hij hy hb
    ·exact absurd hyw (h1 c hcr)
  ·rcases Oq hy with h0|⟨j,z,hz,hlj,rfl⟩
   ·exact YE h0 c hcy (PZ ho (hany.al c hcal))
   ·have hids:=(q5 j z hz).ids c hcy;rcases Nat.lt_trichotomy j i with hji|rfl|hij
    ·have:=(pairB hji hz hx).1 c hcal;rcases hids with h1|h1
     ·exact this.1 h1
     ·exact this.2 h1
    ·rw[hi]at hlj;cases hlj
    ·rcases hids with h1|h1
     ·rcases(pairB hij hx hz).2 with hb|⟨_,_,h3⟩
      ·have:=hafter hij hz hb;rw[hlj]at this;cases this
      ·exact h3 c hcal h1
     ·exact((pairB hij hx hz).1 c h1).2 hcal
  ·rcases OH hy with h0|⟨j,z,hz,hlj,hzf⟩
   ·exact hnB bi y h0 c hcy (PZ ho (hany.al c hcal))
   ·have h1:=(q5 j z hz).obs bi y hzf c hcy;rcases Nat.lt_trichotomy j i with hji|rfl|hij
    ·exact((pairB hji hz hx).1 c hcal).1 h1
    ·rw[hi]at hlj;cases hlj
    ·rcases(pairB hij hx hz).2 with hb|⟨_,_,h3⟩
     ·have:=hafter hij hz hb;rw[hlj]at this;cases this
     ·exact h3 c hcal h1
  ·intro j o' ho' hl e' he' hb';have hl:(Nat.beq j i||ls j)=true:=hl;show(Nat.beq e'.on i||ls e'.on)=true
   by_cases hji:j=i
   ·subst hji;rw[ho]at ho';cases ho';rw[hpre e' he' hb'];simp
   ·rw[dP hji]at hl;rw[hdc j o' ho' (by simpa using hl) e' he' hb'];simp
  ·refine hc'.congr (λt=>aa3 hx (λj y t hij hy hxd hyd=>?_) t) (λc=>acY hx (λj y c hij hy hxc hyc=>?_) c)
   ·rcases pairS hij hx hy with hb|⟨h1,_⟩
    ·exact hafter hij hy hb
    ·exact absurd hyd (h1 t hxd).2
   ·rcases(pairB hij hx hy).2 with hb|⟨_,h2,_⟩
    ·exact hafter hij hy hb
    ·exact absurd (by rw[(q5 j y hy).wr];exact hyc) (h2 c (by rw[hany.wr];exact hxc)).2
 ·rintro ls a w ⟨_,hcc⟩ hall;refine hQ eN bN a w q2' (hcc.congr (λt=>?_) (λi=>?_))
  ·rw[q3];refine qI (λj y hy _=>?_) rfl;rw[hall j (by rw[←hlen];exact(mG.1 hy).1)]
  ·rw[q4];refine wG (λj y hy _=>?_) rfl;rw[hall j (by rw[←hlen];exact(mG.1 hy).1)]
end
end Go.Sw
