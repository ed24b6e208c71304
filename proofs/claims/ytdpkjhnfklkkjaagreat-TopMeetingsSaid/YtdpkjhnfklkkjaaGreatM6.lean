/-
  Rules of the abstract run, plain laws, and what functions answer, for the law TopMeetings.
  Conditions: none.
-/
import Derived.Test.YtdpkjhnfklkkjaaGreatM5
set_option linter.all false
set_option maxHeartbeats 16000000
namespace Go.Sw
open Go Go.RowKit
section
variable {D:FuncId->List AV->AV->Prop} {τ:Tab}
def xG(ids:List Nat)(b b':aZ):Prop:=∀i∈ids,ld i b'=ld i b
theorem jD{b:aZ}{v:AV}{k:AV->aZ->Prop}(hk:jQ b v k):∃v' f,k v' f/\∀(b':aZ) (k':AV->aZ->Prop),xG (dY v) b b'->k' v' f->jQ b' v k':=by
 unfold jQ at hk;split at hk
 .exact⟨_,_,hk,λb' k' _ h=>h⟩
 .rename_i x hn;refine⟨_,_,hk,λb' k' _ h=>?_⟩;unfold jQ
  split<;>first
   |(rename_i heq;cases heq;exact absurd rfl hn)|(rename_i heq;cases heq;exact h)|(rename_i heq;cases heq;done)|simp_all
 .exact⟨_,_,hk,λb' k' _ h=>h⟩
 .rename_i i n;split at hk
  .rename_i T s es hb;refine⟨_,_,hk.k,λb' k' hB h=>?_⟩;unfold jQ;simp only[hB i (by simp[dY]),hb];exact⟨hk.p,h⟩
  .rename_i s es hb;refine⟨_,_,hk.k,λb' k' hB h=>?_⟩;unfold jQ;simp only[hB i (by simp[dY]),hb];exact⟨hk.p,h⟩
  .cases hk
 .rename_i i o;simp only[pJ]at hk;split at hk
  .rename_i cs hb;refine⟨_,_,hk,λb' k' hB h=>?_⟩;unfold jQ;simp only[hB i (by simp[dY]),hb,pJ];exact h
  .rename_i cs hb;refine⟨_,_,hk,λb' k' hB h=>?_⟩;unfold jQ;simp only[hB i (by simp[dY]),hb,pJ];exact h
  .cases hk
 .exact⟨_,_,hk,λb' k' _ h=>h⟩
 .cases hk
theorem aoo{α:Type}:∀(f:List (Nat×α)) {b b':List (Nat×α)} {i:Nat},ld i b'=ld i b->ld i (ups f b')=ld i (ups f b)
 |[],b,b',i,h=>h
 |(t,x)::r,b,b',i,h=>by
  refine aoo r ?_;rw[qY,qY,h]
theorem mO:∀{vs:List AV} {b:aZ} {k:List AV->aZ->Prop},jU vs b k->∃vs' f,k vs' f/\∀(b':aZ) (k':List AV->aZ->Prop),xG (vs.flatMap dY) b b'->k' vs' f->jU vs b' k'
 |[],b,k,hk=>⟨_,_,hk,λb' k' _ h=>h⟩
 |v::r,b,k,hk=>by
  obtain⟨v',f,h1,h2⟩:=jD hk;obtain⟨vs',g,h3,h4⟩:=mO h1;refine⟨_,_,h3,λb' k' hB hk'=>h2 b' _ (λi hi=>hB i (by simp[hi])) (h4 _ _ (λi hi=>aoo f (hB i (by rw[Jy];exact qP _ hi))) hk')⟩
theorem sD{e:Env}:∀{ps:List (Nat×Operand)} {b:aZ} {k:List (Nat×List Cell)->aZ->Prop},oL e ps b k->∃vs' f,k vs' f/\∀(e':Env) (b':aZ) (k':List (Nat×List Cell)->aZ->Prop),(∀p∈ps,ae e' p.2=ae e p.2)->xG (ps.flatMap λp=>kD e p.2) b b'->k' vs' f->oL e' ps b' k'
 |[],b,k,hk=>⟨_,_,hk,λe' b' k' _ _ h=>h⟩
 |(j,x)::r,b,k,hk=>by
  simp only[oL]at hk;cases hx:ae e x with
  |none=>simp[hx]at hk
  |some v =>
   simp only[hx]at hk;obtain⟨v',f,h1,h2⟩:=jD hk;obtain⟨vs',g,h3,h4⟩:=sD h1;refine⟨_,_,h3,λe' b' k' hE hB hk'=>?_⟩;have hx':ae e' x=some v:=(hE (j,x) η).trans hx;simp only[oL,hx'];refine h2 b' _ (λi hi=>hB i ?_) (h4 e' _ _ (λp hp=>hE p (by simp[hp])) (λi hi=>aoo f (hB i ?_)) hk')
   .rw[Jy];exact yQ _ (by simp only[kD,hx];exact hi)
   .rw[Jy];exact qP _ hi
theorem TN{v:AV}{b:aZ}{k:List Cell->Prop}(hk:yj b v k):∃cs,k cs/\∀(b':aZ) (k':List Cell->Prop),xG (dY v) b b'->k' cs->yj b' v k':=by
 unfold yj at hk;split at hk
 .exact⟨_,hk,λb' k' _ h=>by unfold yj;exact h⟩
 .rename_i c hne;refine⟨_,hk,λb' k' _ h=>?_⟩;unfold yj;split
  .rename_i heq;cases heq;exact(hne rfl).elim
  .rename_i heq;cases heq;exact h
  .rename_i heq;cases heq
  .rename_i heq;cases heq
  .exfalso;simp_all
 .exact⟨_,hk,λb' k' _ h=>by unfold yj;exact h⟩
 .rename_i c n;split at hk
  .rename_i m hm;refine⟨_,hk.k,λb' k' hB h=>?_⟩
   have:tN c b'=some m:=by
    have hb:=hB c (by simp[dY]);unfold tN at hm ⊢;rw[hb];exact hm
   unfold yj;simp only[this];exact⟨hk.p,h⟩
  .cases hk
 .cases hk
theorem En{e:Env}:∀{ps:List (Nat×Operand)} {b:aZ} {k:List (Nat×List Cell)->Prop},tC e b ps k->∃vs',k vs'/\∀(e':Env) (b':aZ) (k':List (Nat×List Cell)->Prop),(∀p∈ps,ae e' p.2=ae e p.2)->xG (ps.flatMap λp=>kD e p.2) b b'->k' vs'->tC e' b' ps k'
 |[],b,k,hk=>⟨_,hk,λe' b' k' _ _ h=>h⟩
 |(j,x)::r,b,k,hk=>by
  simp only[tC]at hk;cases hx:ae e x with
  |none=>simp[hx]at hk
  |some v =>
   simp only[hx]at hk;obtain⟨cs,h1,h2⟩:=TN hk;obtain⟨vs',h3,h4⟩:=En h1;refine⟨_,h3,λe' b' k' hE hB hk'=>?_⟩;have hx':ae e' x=some v:=(hE (j,x) η).trans hx;simp only[tC,hx'];refine h2 b' _ (λi hi=>hB i ?_) (h4 e' b' _ (λp hp=>hE p (by simp[hp])) (λi hi=>hB i ?_) hk')
   .rw[Jy];exact yQ _ (by simp only[kD,hx];exact hi)
   .rw[Jy];exact qP _ hi
theorem Dc{e:Env}:∀{l:List Operand} {vs:List AV},je (λx=>ae e x) l=some vs->vs.flatMap dY=l.flatMap (kD e)
 |[],vs,h=>by simp[je]at h;subst h;rfl
 |x::l,vs,h=>by
  simp only[je]at h;cases hx:ae e x with
  |none=>simp[hx]at h
  |some y =>
   cases hq:je (λx=>ae e x) l with
   |none=>simp[hx,hq]at h
   |some q =>
    simp[hx,hq]at h;subst h;rw[Jy,Jy,Dc hq];simp only[kD,hx]
theorem sG{α β:Type}{f g:α->Option β}:∀{l:List α},(∀x∈l,f x=g x)->je f l=je g l
 |[],_=>rfl
 |x::r,h=>by simp only[je,h x η,sG (l:=r) (λy hy=>h y (by simp[hy]))]
structure Alike (o:Oper) (e:Env) (b:aZ) (e':Env) (b':aZ):Prop where
 op:∀x∈o.op.operands.toList,ae e' x=ae e x
 bx:xG (tY o e b) b b'
def oh(D:FuncId->List AV->AV->Prop)(τ:Tab)(o:Oper)(e:Env)(b:aZ)(k:AV->aZ->Prop):Prop:=∃v f,k v f/\∀(e':Env) (b':aZ) (k':AV->aZ->Prop),Alike o e b e' b'->k' v f->bZ D τ o e' b' k'
variable {d:Option Nat} {ty:TypeId} {pos:String} {af:Array Edge} {gd:Option (Nat × Bool)} {k:AV->aZ->Prop} {e:Env} {b:aZ}
theorem Yv{x:Operand}(hk:bZ D τ ⟨d,.move x,ty,pos,af,gd⟩ e b k):oh D τ ⟨d,.move x,ty,pos,af,gd⟩ e b k:=by
 unfold bZ at hk;cases hx:ae e x with
 |none=>simp[hx]at hk
 |some v =>
  simp only[hx]at hk;refine⟨_,_,hk,λe' b' k' hA h=>?_⟩;unfold bZ;simp only[hA.op x υ,hx];exact h
theorem Om{x:Operand}(hk:bZ D τ ⟨d,.assign x,ty,pos,af,gd⟩ e b k):oh D τ ⟨d,.assign x,ty,pos,af,gd⟩ e b k:=by
 unfold bZ at hk;simp only at hk;split at hk
 .rename_i i T s hn;refine⟨_,_,hk,λe' b' k' hA h=>?_⟩;unfold bZ;simp only[hn];exact h
 rename_i hn;cases hx:ae e x with
 |none=>simp[hx]at hk
 |some v =>
  simp only[hx]at hk;refine⟨_,_,hk,λe' b' k' hA h=>?_⟩;unfold bZ;simp only[hn,hA.op x υ,hx];exact h
theorem Xf{x y z:Operand}(hk:bZ D τ ⟨d,.pick x y z,ty,pos,af,gd⟩ e b k):oh D τ ⟨d,.pick x y z,ty,pos,af,gd⟩ e b k:=by
 unfold bZ at hk;simp only at hk;split at hk
 .rename_i p hx;have hb:(match ae e (cond p y z)with|some v=>k v []|none=>False):=by cases p<;>first|exact hk.t rfl|exact hk.f rfl
  cases hq:ae e (cond p y z)with
  |none=>simp[hq]at hb
  |some v =>
   simp only[hq]at hb;refine⟨_,_,hb,λe' b' k' hA h=>?_⟩;unfold bZ;simp only[hA.op x υ,hx];refine⟨λh1=>?_,λh1=>?_⟩<;>subst h1
   .have:ae e' y=ae e y:=hA.op y υ;simp only[cond_true]at hq ⊢;rw[this,hq];exact h
   .have:ae e' z=ae e z:=hA.op z υ;simp only[cond_false]at hq ⊢;rw[this,hq];exact h
 .cases hk
theorem RX{t:TypeId}(hk:bZ D τ ⟨d,.alloc t,ty,pos,af,gd⟩ e b k):oh D τ ⟨d,.alloc t,ty,pos,af,gd⟩ e b k:=by
 unfold bZ at hk;simp only at hk;split at hk
 .rename_i ti i h1;split at hk
  .rename_i hty;refine⟨_,_,hk,λe' b' k' hA h=>?_⟩;unfold bZ;simp only[h1,hty];exact h
  .cases hk
 .cases hk
theorem ab2{t:TypeId}{x:Operand}(hk:bZ D τ ⟨d,.box t x,ty,pos,af,gd⟩ e b k):oh D τ ⟨d,.box t x,ty,pos,af,gd⟩ e b k:=by
 unfold bZ at hk;simp only at hk;split at hk
 .rename_i i v hx;obtain⟨v',f,h1,h2⟩:=jD hk;split at h1
  .rename_i hf;refine⟨_,_,h1,λe' b' k' hA h=>?_⟩;unfold bZ;simp only[hA.op x υ,hx];refine h2 b' _ (λi hi=>hA.bx i (by simp[tY,passes,kV,tZ,Op.operands,kD,hx,hi])) ?_;simp only[hf];exact h
  .cases h1
 .cases hk
theorem xQ{b:aZ}{es:List (List Cell)}{n:Nat}{j:Int}{ti:TI}{off:Nat}(hk:Obl (n=es.length) (Elem es j λcs=>(match jd ti (dU off cs)with|some v=>k v []|none=>False))):
 ∃v,k v []/\∀(k':AV->aZ->Prop),k' v []->Obl (n=es.length) (Elem es j λcs=>(match jd ti (dU off cs)with|some v=>k' v []|none=>False)):=by
 obtain⟨hl,⟨j',cs,hj,he,hkk⟩⟩:=hk;cases hr:jd ti (dU off cs)with
 |none=>simp[hr]at hkk
 |some v =>
  simp only[hr]at hkk;exact⟨v,hkk,λk' h=>⟨hl,⟨j',cs,hj,he,by simp only[hr];exact h⟩⟩⟩
theorem sV:∀{cs:List Cell} {b:aZ} {k:List Cell->aZ->Prop},IV cs b k->∃cs' f,k cs' f/\∀(b':aZ) (k':List Cell->aZ->Prop),xG (lJ cs) b b'->k' cs' f->IV cs b' k'
 |[],b,k,hk=>⟨_,_,hk,λb' k' _ h=>h⟩
 |.ob i n::r,b,k,hk=>by
  simp only[IV]at hk;obtain⟨v',f,h1,h2⟩:=jD hk;cases v' with
  |c c' =>
   simp only at h1;obtain⟨cs',g,h3,h4⟩:=sV h1;refine⟨_,_,h3,λb' k' hB hk'=>?_⟩;simp only[IV];exact h2 b' _ (λj hj=>hB j (by simp[dY]at hj;subst hj;simp[lJ])) (h4 _ _ (λj hj=>aoo f (hB j (by simp[lJ,hj]))) hk')
  |_=>exact False.elim h1
 |.v u::r,b,k,hk=>by
  simp only[IV]at hk;obtain⟨cs',g,h3,h4⟩:=sV hk;exact⟨_,_,h3,λb' k' hB hk'=>by simp only[IV];exact h4 _ _ (λj hj=>hB j (by simpa only[lJ]using hj)) hk'⟩
 |.sl s es::r,b,k,hk=>by
  simp only[IV]at hk;obtain⟨cs',g,h3,h4⟩:=sV hk;exact⟨_,_,h3,λb' k' hB hk'=>by simp only[IV];exact h4 _ _ (λj hj=>hB j (by simpa only[lJ]using hj)) hk'⟩
 |.p ps::r,b,k,hk=>by
  simp only[IV]at hk;obtain⟨cs',g,h3,h4⟩:=sV hk;exact⟨_,_,h3,λb' k' hB hk'=>by simp only[IV];exact h4 _ _ (λj hj=>hB j (by simpa only[lJ]using hj)) hk'⟩
 |.fn ff ps::r,b,k,hk=>by
  simp only[IV]at hk;obtain⟨cs',g,h3,h4⟩:=sV hk;exact⟨_,_,h3,λb' k' hB hk'=>by simp only[IV];exact h4 _ _ (λj hj=>hB j (by simpa only[lJ]using hj)) hk'⟩
theorem zo:∀{n:Nat} {cs l:List Cell},takeN n cs=some l->∀i∈lJ l,i∈lJ cs
 |0,cs,l,h,i,hi=>by simp[takeN]at h;subst h;simp[lJ]at hi
 |n+1,[],l,h,i,hi=>by simp[takeN]at h
 |n+1,c::cs,l,h,i,hi=>by
  simp only[takeN]at h;cases hq:takeN n cs with
  |none=>simp[hq]at h
  |some q =>
   simp[hq]at h;subst h;have ih:=zo hq;cases c<;>simp only[lJ,jA]at hi ⊢<;>first|exact ih i hi|(rcases hi with hi|hi;exact .inl hi;exact .inr (ih i hi))
theorem zu:∀{n:Nat} {cs:List Cell},∀i∈lJ (dU n cs),i∈lJ cs
 |0,cs,i,hi=>by simpa[dU]using hi
 |n+1,[],i,hi=>by simp[dU,lJ]at hi
 |n+1,c::cs,i,hi=>by
  have:=zu (n:=n) (cs:=cs) i hi;cases c<;>simp only[lJ,jA]<;>first|exact this|exact .inr this
theorem Sl{ti:TI}{cs:List Cell}{b:aZ}{k:AV->aZ->Prop}(hk:uJ ti cs b k):∃v f,k v f/\∀(b':aZ) (k':AV->aZ->Prop),xG (lJ cs) b b'->k' v f->uJ ti cs b' k':=by
 unfold uJ at hk;split at hk
 .rename_i n hn;split at hk
  .rename_i l hl;obtain⟨cs',f,h1,h2⟩:=sV hk;refine⟨_,_,h1,λb' k' hB h=>?_⟩;unfold uJ;simp only[hn,hl];exact h2 b' _ (λi hi=>hB i (zo hl i hi)) h
  .cases hk
 .rename_i hn;cases ti<;>(try simp only at hk)<;>first|(cases hk;done)|(simp[YU]at hn;done)|skip
  all_goals(cases cs with
   |nil=>cases hk
   |cons c r=>exact⟨_,_,hk,λb' k' hB h=>h⟩)
theorem XK{t:TypeId}{x:Operand}(hk:bZ D τ ⟨d,.load t x,ty,pos,af,gd⟩ e b k):oh D τ ⟨d,.load t x,ty,pos,af,gd⟩ e b k:=by
 unfold bZ at hk;simp only at hk;split at hk
 .rename_i ti i off ht hx;split at hk
  .rename_i cs hb;cases hr:jd ti (dU off cs)with
   |none=>simp[hr]at hk
   |some v =>
    simp only[hr]at hk;refine⟨_,_,hk,λe' b' k' hA h=>?_⟩;have hb':=hA.bx i (by simp[tY,passes,kV,tZ,Op.operands,kD,hx,dY]);unfold bZ;simp only[ht,hA.op x υ,hx,hb',hb,hr];exact h
  .rename_i cs hb;cases hr:jd ti (dU off cs)with
   |none=>simp[hr]at hk
   |some v =>
    simp only[hr]at hk;refine⟨_,_,hk,λe' b' k' hA h=>?_⟩;have hb':=hA.bx i (by simp[tY,passes,kV,tZ,Op.operands,kD,hx,dY]);unfold bZ;simp only[ht,hA.op x υ,hx,hb',hb,hr];exact h
  .rename_i cs hb;obtain⟨v,f,h1,h2⟩:=Sl hk;refine⟨_,_,h1,λe' b' k' hA h=>?_⟩;have hb':=hA.bx i (by simp[tY,passes,kV,tZ,Op.operands,kD,hx,dY]);unfold bZ;simp only[ht,hA.op x υ,hx,hb',hb];refine h2 b' k' (λj hj=>hA.bx j ?_) h;simp only[tY,passes,cond_false,kV];exact qP _ (List.mem_flatMap.2 ⟨i,by simp[tZ,Op.operands,kD,hx,dY],by simp only[YF,hb];exact zu j hj⟩)
  .cases hk
 .rename_i ti cs ht hx;cases hr:jd ti cs with
  |none=>simp[hr]at hk
  |some v =>
   simp only[hr]at hk;refine⟨_,_,hk,λe' b' k' hA h=>?_⟩;unfold bZ;simp only[ht,hA.op x υ,hx,hr];exact h
 .rename_i ti cs ht hx;cases hr:jd ti cs with
  |none=>simp[hr]at hk
  |some v =>
   simp only[hr]at hk;refine⟨_,_,hk,λe' b' k' hA h=>?_⟩;unfold bZ;simp only[ht,hA.op x υ,hx,hr];exact h
 .rename_i ti g off ht hx;split at hk
  .rename_i kk cs hg;cases hr:jd ti (dU off cs)with
   |none=>simp[hr]at hk
   |some v =>
    simp only[hr]at hk;refine⟨_,_,hk,λe' b' k' hA h=>?_⟩;unfold bZ;simp only[ht,hA.op x υ,hx,hg,hr];exact h
  .cases hk
 .rename_i ti i n j off ht hx;split at hk
  .rename_i T s es hb;obtain⟨v,h1,h2⟩:=xQ (b:=b) hk;refine⟨_,_,h1,λe' b' k' hA h=>?_⟩;have hb':=hA.bx i (by simp[tY,passes,kV,tZ,Op.operands,kD,hx,dY]);unfold bZ;simp only[ht,hA.op x υ,hx,hb',hb];exact h2 k' h
  .rename_i s es hb;obtain⟨v,h1,h2⟩:=xQ (b:=b) hk;refine⟨_,_,h1,λe' b' k' hA h=>?_⟩;have hb':=hA.bx i (by simp[tY,passes,kV,tZ,Op.operands,kD,hx,dY]);unfold bZ;simp only[ht,hA.op x υ,hx,hb',hb];exact h2 k' h
  .cases hk
 .cases hk
theorem Ux{t:TypeId}{x y:Operand}(hk:bZ D τ ⟨d,.store t x y,ty,pos,af,gd⟩ e b k):oh D τ ⟨d,.store t x y,ty,pos,af,gd⟩ e b k:=by
 unfold bZ at hk;simp only at hk;split at hk
 .rename_i ds hag;split at hk
  .rename_i ti i off ht hx;split at hk
   .rename_i cs hb;split at hk
    .rename_i cs' hsz hp;refine⟨_,_,hk,λe' b' k' hA h=>?_⟩;have hb':=hA.bx i (by simp[tY,passes,kV,tZ,Op.operands,kD,hx,dY]);unfold bZ;simp only[hA.op x υ,hA.op y υ,hag,ht,hx,hb',hb,hsz,hp];exact h
    .cases hk
   .cases hk
  .cases hk
 rename_i hag;split at hk
 .rename_i ti i off v ht hx hy
  have old:∀{cs:List Cell} (vo:Bool),(jQ b v λv' f=>(match f.any (λp=>Nat.beq p.1 i),szB ti (cellsOf v').length,oK off (cellsOf v') cs with|false,true,some cs'=>k .any (f++[(i,cond vo (.varo cs') (.var cs'))])|_,_,_=>False)) ->
   ∃f,k .any f/\∀(b':aZ) (k':AV->aZ->Prop),xG (dY v) b b'->k' .any f->(jQ b' v λv' f=>(match f.any (λp=>Nat.beq p.1 i),szB ti (cellsOf v').length,oK off (cellsOf v') cs with|false,true,some cs'=>k' .any (f++[(i,cond vo (.varo cs') (.var cs'))])|_,_,_=>False)):=by
   intro cs vo hk;obtain⟨v',f,h1,h2⟩:=jD hk;split at h1
   .rename_i cs' hf hsz hp;refine⟨_,h1,λb' k' hB h=>h2 b' _ hB ?_⟩;simp only[hf,hsz,hp];exact h
   .exact False.elim h1
  have hlen:∀{e':Env} {b':aZ} {c n:Nat},Alike ⟨d,.store t x y,ty,pos,af,gd⟩ e b e' b'->Kr v=some (c,n)->tN c b'=tN c b:=by
   intro e' b' c n hA hg
   have hv:v=.gs c n:=by
    unfold Kr at hg;split at hg
    .cases hg;rfl
    .cases hg
   unfold tN;rw[hA.bx c (by subst hv;simp[tY,passes,kV,tZ,Op.operands,kD,hy,dY])]
  split at hk
  .rename_i cs hb;split at hk
   .rename_i c n ho hsl hgs;split at hk
    .rename_i ml cs' hl hp;refine⟨_,_,hk.k,λe' b' k' hA h=>?_⟩;have hb':=hA.bx i (by simp[tY,passes,kV,tZ,Op.operands,kD,hx,dY]);unfold bZ;have hagv:wG (some v)=none:=by rw[<-hy];exact hag
     simp only[hagv,ht,hA.op x υ,hA.op y υ,hx,hy,hb',hb,ho,hsl,hgs,hlen hA hgs,hl,hp];exact⟨hk.p,h⟩
    .cases hk
   .rename_i hno;obtain⟨f,h1,h2⟩:=old (cs:=cs) false hk;refine⟨_,_,h1,λe' b' k' hA h=>?_⟩;have hb':=hA.bx i (by simp[tY,passes,kV,tZ,Op.operands,kD,hx,dY]);have h3:=h2 b' k' (λc hc=>hA.bx c (by simp[tY,passes,kV,tZ,Op.operands,kD,hy,hc])) h;unfold bZ;have hagv:wG (some v)=none:=by rw[<-hy];exact hag
    simp only[hagv,ht,hA.op x υ,hA.op y υ,hx,hy,hb',hb]
    first
     |exact h3
     |(split
       .rename_i c n ho hsl hgs;exact absurd hgs (hno c n ho hsl)
       .exact h3)
  .rename_i cs hb;split at hk
   .rename_i c n hsl hgs;split at hk
    .rename_i ml cs' hl hp;refine⟨_,_,hk.k,λe' b' k' hA h=>?_⟩;have hb':=hA.bx i (by simp[tY,passes,kV,tZ,Op.operands,kD,hx,dY]);unfold bZ;have hagv:wG (some v)=none:=by rw[<-hy];exact hag
     simp only[hagv,ht,hA.op x υ,hA.op y υ,hx,hy,hb',hb,hsl,hgs,hlen hA hgs,hl,hp];exact⟨hk.p,h⟩
    .cases hk
   .rename_i hno;obtain⟨f,h1,h2⟩:=old (cs:=cs) true hk;refine⟨_,_,h1,λe' b' k' hA h=>?_⟩;have hb':=hA.bx i (by simp[tY,passes,kV,tZ,Op.operands,kD,hx,dY]);have h3:=h2 b' k' (λc hc=>hA.bx c (by simp[tY,passes,kV,tZ,Op.operands,kD,hy,hc])) h;unfold bZ;have hagv:wG (some v)=none:=by rw[<-hy];exact hag
    simp only[hagv,ht,hA.op x υ,hA.op y υ,hx,hy,hb',hb]
    first
     |exact h3
     |(split
       .rename_i c n hsl hgs;exact absurd hgs (hno c n hsl)
       .exact h3)
  .cases hk
 .rename_i ti i n j off v ht hx hy;split at hk
  .rename_i T s es hb;obtain⟨v',f,h1,h2⟩:=jD hk;split at h1
   .obtain⟨hl,⟨j',cs,hj,he,hkk⟩⟩:=h1;split at hkk
    .rename_i cs' hsz hp;refine⟨_,_,hkk,λe' b' k' hA h=>?_⟩;have hb':=hA.bx i (by simp[tY,passes,kV,tZ,Op.operands,kD,hx,dY]);unfold bZ;have hagv:wG (some v)=none:=by rw[<-hy];exact hag
     simp only[hagv,ht,hA.op x υ,hA.op y υ,hx,hy,hb',hb];refine h2 b' _ (λc hc=>hA.bx c (by simp[tY,passes,kV,tZ,Op.operands,kD,hy,hc])) ?_;refine⟨hl,⟨j',cs,hj,he, ?_⟩⟩;simp only[hsz,hp];exact h
    .exact False.elim hkk
   .exact False.elim h1
  .cases hk
 .cases hk
theorem ER{t:TypeId}{x:Operand}{i:Nat}(hk:bZ D τ ⟨d,.fieldAddr t x i,ty,pos,af,gd⟩ e b k):oh D τ ⟨d,.fieldAddr t x i,ty,pos,af,gd⟩ e b k:=by
 unfold bZ at hk;simp only at hk;split at hk
 .rename_i n fs z ht;split at hk
  .rename_i off s1 s2 j o' hi hx;refine⟨_,_,hk,λe' b' k' hA h=>?_⟩;unfold bZ;simp only[ht,hA.op x υ,hx,hi];exact h
  .rename_i off s1 s2 c n' j o' hi hx;split at hk
   .rename_i T s es hb;refine⟨_,_,hk.k,λe' b' k' hA h=>?_⟩;have hb':=hA.bx c (by simp[tY,passes,Op.operands,hx,aey]);unfold bZ;simp only[ht,hA.op x υ,hx,hi,hb',hb];exact⟨hk.p,h⟩
   .rename_i s es hb;refine⟨_,_,hk.k,λe' b' k' hA h=>?_⟩;have hb':=hA.bx c (by simp[tY,passes,Op.operands,hx,aey]);unfold bZ;simp only[ht,hA.op x υ,hx,hi,hb',hb];exact⟨hk.p,h⟩
   .cases hk
  .rename_i off s1 s2 cs hi hx;refine⟨_,_,hk,λe' b' k' hA h=>?_⟩;unfold bZ;simp only[ht,hA.op x υ,hx,hi];exact h
  .rename_i off s1 s2 cs hi hx;refine⟨_,_,hk,λe' b' k' hA h=>?_⟩;unfold bZ;simp only[ht,hA.op x υ,hx,hi];exact h
  .rename_i off s1 s2 g o' hi hx;refine⟨_,_,hk,λe' b' k' hA h=>?_⟩;unfold bZ;simp only[ht,hA.op x υ,hx,hi];exact h
  .cases hk
 .cases hk
theorem Sz{t:TypeId}{x:Operand}{i:Nat}(hk:bZ D τ ⟨d,.field t x i,ty,pos,af,gd⟩ e b k):oh D τ ⟨d,.field t x i,ty,pos,af,gd⟩ e b k:=by
 unfold bZ at hk;simp only at hk;split at hk
 .rename_i n fs z ht;split at hk
  .rename_i off s ag cs hi hx;cases hr:takeN s (dU off cs)with
   |none=>simp[hr]at hk
   |some l =>
    simp only[hr]at hk;cases ag with
    |true =>
     refine⟨_,_,hk,λe' b' k' hA h=>?_⟩;unfold bZ;simp only[ht,hA.op x υ,hx,hi,hr];exact h
    |false =>
     cases l with
     |nil=>cases hk
     |cons c r =>
      refine⟨_,_,hk,λe' b' k' hA h=>?_⟩;unfold bZ;simp only[ht,hA.op x υ,hx,hi,hr];exact h
  .cases hk
 .cases hk
theorem EL{t:TypeId}{x y:Operand}(hk:bZ D τ ⟨d,.indexAddr t x y,ty,pos,af,gd⟩ e b k):oh D τ ⟨d,.indexAddr t x y,ty,pos,af,gd⟩ e b k:=by
 unfold bZ at hk;simp only at hk;split at hk
 .rename_i e1 s by_ z s' es ki i ht hx hy;split at hk
  .rename_i hs;obtain⟨j,cs,h1,h2,hkk⟩:=hk;refine⟨_,_,hkk,λe' b' k' hA h=>?_⟩;unfold bZ;simp only[ht,hA.op x υ,hA.op y υ,hx,hy,hs];exact⟨j,cs,h1,h2,h⟩
  .cases hk
 .rename_i e1 s by_ z c n ki i ht hx hy;split at hk
  .rename_i T s' es hb;split at hk
   .rename_i hs;obtain⟨hl,⟨j,cs,h1,h2,hkk⟩⟩:=hk;refine⟨_,_,hkk,λe' b' k' hA h=>?_⟩;have hb':=hA.bx c (by simp[tY,passes,kV,tZ,Op.operands,kD,hx,dY]);unfold bZ;simp only[ht,hA.op x υ,hA.op y υ,hx,hy,hb',hb,hs];exact⟨hl,⟨j,cs,h1,h2,h⟩⟩
   .cases hk
  .rename_i s' es hb;split at hk
   .rename_i hs;obtain⟨hl,⟨j,cs,h1,h2,hkk⟩⟩:=hk;refine⟨_,_,hkk,λe' b' k' hA h=>?_⟩;have hb':=hA.bx c (by simp[tY,passes,kV,tZ,Op.operands,kD,hx,dY]);unfold bZ;simp only[ht,hA.op x υ,hA.op y υ,hx,hy,hb',hb,hs];exact⟨hl,⟨j,cs,h1,h2,h⟩⟩
   .cases hk
  .cases hk
 .rename_i n s one z c o' ki i ht hx hy;split at hk
  .rename_i hs;refine⟨_,_,hk,λe' b' k' hA h=>?_⟩;unfold bZ;simp only[ht,hA.op x υ,hA.op y υ,hx,hy,hs];exact h
  .cases hk
 .rename_i n s one z g o' ki i ht hx hy;split at hk
  .rename_i hs;refine⟨_,_,hk,λe' b' k' hA h=>?_⟩;unfold bZ;simp only[ht,hA.op x υ,hA.op y υ,hx,hy,hs];exact h
  .cases hk
 .rename_i n s one z cs ki i ht hx hy;split at hk
  .rename_i hs;refine⟨_,_,hk,λe' b' k' hA h=>?_⟩;unfold bZ;simp only[ht,hA.op x υ,hA.op y υ,hx,hy,hs];exact h
  .cases hk
 .rename_i n s one z cs ki i ht hx hy;split at hk
  .rename_i hs;refine⟨_,_,hk,λe' b' k' hA h=>?_⟩;unfold bZ;simp only[ht,hA.op x υ,hA.op y υ,hx,hy,hs];exact h
  .cases hk
 .rename_i n s one z c m j o' ki i ht hx hy;split at hk
  .rename_i T s' es hs hb;refine⟨_,_,hk.k,λe' b' k' hA h=>?_⟩;have hb':=hA.bx c (by simp[tY,passes,kV,tZ,Op.operands,kD,hx,dY]);unfold bZ;simp only[ht,hA.op x υ,hA.op y υ,hx,hy,hs,hb',hb];exact⟨hk.p,h⟩
  .rename_i s' es hs hb;refine⟨_,_,hk.k,λe' b' k' hA h=>?_⟩;have hb':=hA.bx c (by simp[tY,passes,kV,tZ,Op.operands,kD,hx,dY]);unfold bZ;simp only[ht,hA.op x υ,hA.op y υ,hx,hy,hs,hb',hb];exact⟨hk.p,h⟩
  .cases hk
 .cases hk
theorem JR{x:Operand}{i:Nat}(hk:bZ D τ ⟨d,.extract x i,ty,pos,af,gd⟩ e b k):oh D τ ⟨d,.extract x i,ty,pos,af,gd⟩ e b k:=by
 unfold bZ at hk;simp only at hk;split at hk
 .rename_i vs hx;cases hi:vs[i]? with
  |none=>simp[hi]at hk
  |some v =>
   simp only[hi]at hk;refine⟨_,_,hk,λe' b' k' hA h=>?_⟩;unfold bZ;simp only[hA.op x υ,hx,hi];exact h
 .cases hk
theorem abp{t:TypeId}{x:Operand}(hk:bZ D τ ⟨d,.unOp .not t x,ty,pos,af,gd⟩ e b k):oh D τ ⟨d,.unOp .not t x,ty,pos,af,gd⟩ e b k:=by
 unfold bZ at hk;simp only at hk;split at hk
 .rename_i p hx;refine⟨_,_,hk,λe' b' k' hA h=>?_⟩;unfold bZ;simp only[hA.op x υ,hx];exact h
 .cases hk
theorem IQ{x:Operand}(hk:bZ D τ ⟨d,.nilCheck x,ty,pos,af,gd⟩ e b k):oh D τ ⟨d,.nilCheck x,ty,pos,af,gd⟩ e b k:=by
 unfold bZ at hk;simp only at hk;split at hk
 all_goals first
  |(rename_i hx
    refine⟨_,_,hk,λe' b' k' hA h=>?_⟩;unfold bZ;simp only[hA.op x υ,hx]
    exact h)
  |cases hk
theorem Iw{fn:Fn}{first captured:Array Operand}(hk:bZ D τ ⟨d,.makeFunc fn first captured,ty,pos,af,gd⟩ e b k):oh D τ ⟨d,.makeFunc fn first captured,ty,pos,af,gd⟩ e b k:=by
 unfold bZ at hk;simp only at hk;split at hk
 .rename_i g vs hf hv;obtain⟨a_s,f,h1,h2⟩:=mO hk;split at h1
  .rename_i cs hcs;refine⟨_,_,h1,λe' b' k' hA h=>?_⟩
   have hv':je (λx=>ae e' x) captured.toList=some vs:=by
    rw[<-hv];exact sG λx hx=>hA.op x (by simp only[Op.operands,Array.toList_append];exact qP _ hx)
   unfold bZ;simp only[hf,hv'];refine h2 b' _ (λi hi=>hA.bx i ?_) (by simp only[hcs];exact h);simp only[tY,passes,cond_false,kV,EG,tZ,Op.operands,Array.toList_append];rw[qbO,<-Dc hv];exact qP _ hi
  .cases h1
 .cases hk
theorem Z8{t:TypeId}{x:Operand}(hk:bZ D τ ⟨d,.unOp .neg t x,ty,pos,af,gd⟩ e b k):oh D τ ⟨d,.unOp .neg t x,ty,pos,af,gd⟩ e b k:=by
 unfold bZ at hk;simp only at hk;split at hk
 .rename_i p q hx;refine⟨_,_,hk,λe' b' k' hA h=>?_⟩;unfold bZ;simp only[hA.op x υ,hx];exact h
 .cases hk
theorem XR{src dst:TypeId}{x:Operand}(hk:bZ D τ ⟨d,.convert src dst x,ty,pos,af,gd⟩ e b k):oh D τ ⟨d,.convert src dst x,ty,pos,af,gd⟩ e b k:=by
 unfold bZ at hk;simp only at hk;split at hk
 .rename_i k0 ki k1 n h1 h2 hx;refine⟨_,_,hk,λe' b' k' hA h=>?_⟩;unfold bZ;simp only[h1,h2,hA.op x υ,hx];exact h
 .rename_i T s by_ z b0 h1 h2 hx;split at hk
  .rename_i h3 h4;refine⟨_,_,hk.k,λe' b' k' hA h=>?_⟩;unfold bZ;simp only[h1,h2,hA.op x υ,hx,h3,h4];exact⟨hk.p,h⟩
  .cases hk
 .rename_i k0 k1 n h1 h2 hx;refine⟨_,_,hk,λe' b' k' hA h=>?_⟩;unfold bZ;simp only[h1,h2,hA.op x υ,hx];exact h
 .cases hk
theorem Ut{t:TypeId}{x y:Operand}(hk:bZ D τ ⟨d,.index t x y,ty,pos,af,gd⟩ e b k):oh D τ ⟨d,.index t x y,ty,pos,af,gd⟩ e b k:=by
 unfold bZ at hk;simp only at hk;split at hk
 .rename_i s ki i h1 hx hy;obtain⟨j,hi,hj,hk⟩:=hk;refine⟨_,_,hk,λe' b' k' hA h=>?_⟩;unfold bZ;simp only[h1,hA.op x υ,hA.op y υ,hx,hy];exact⟨j,hi,hj,h⟩
 .cases hk
theorem VA{op:BinOp}{x y:AV}{k:AV->Prop}(hk:DT op x y k):∃v,k v/\∀k':AV->Prop,k' v->DT op x y k':=by
 unfold DT at hk
 split at hk<;>first
  |exact False.elim hk|exact⟨_,hk.k,λk' h=>by unfold DT;exact⟨hk.p,h⟩⟩|exact⟨_,hk,λk' h=>by unfold DT;exact h⟩
  |(split at hk<;>first
   |exact False.elim hk
   |(rename_i hd;first
    |exact⟨_,hk.k,λk' h=>by unfold DT;simp only[hd];exact⟨hk.p,h⟩⟩|exact⟨_,hk,λk' h=>by unfold DT;simp only[hd];exact h⟩))
theorem abP{op:BinOp}{t u:TypeId}{x y:Operand}(hk:bZ D τ ⟨d,.binOp op t x y u,ty,pos,af,gd⟩ e b k):oh D τ ⟨d,.binOp op t x y u,ty,pos,af,gd⟩ e b k:=by
 unfold bZ at hk;simp only at hk;split at hk
 .rename_i p q hx hy;split at hk
  .rename_i ht;refine⟨_,_,hk,λe' b' k' hA h=>?_⟩;unfold bZ;simp only[hA.op x υ,hA.op y υ,hx,hy,ht];exact h
  .rename_i ht;refine⟨_,_,hk,λe' b' k' hA h=>?_⟩;unfold bZ;simp only[hA.op x υ,hA.op y υ,hx,hy,ht];exact h
  .cases hk
 .rename_i cs ds hx hy;split at hk
  .rename_i ks hf;split at hk
   .rename_i q hq;refine⟨_,_,hk,λe' b' k' hA h=>?_⟩;unfold bZ;simp only[hA.op x υ,hA.op y υ,hx,hy,hf,hq];exact h
   .cases hk
  .rename_i ks hf;split at hk
   .rename_i q hq;refine⟨_,_,hk,λe' b' k' hA h=>?_⟩;unfold bZ;simp only[hA.op x υ,hA.op y υ,hx,hy,hf,hq];exact h
   .cases hk
  .cases hk
 .rename_i p q hn hn2 hx hy;obtain⟨v,h1,h2⟩:=VA hk;refine⟨_,_,h1,λe' b' k' hA h=>?_⟩;unfold bZ;simp only[hA.op x υ,hA.op y υ,hx,hy];exact h2 _ h
 .cases hk
theorem UK{t:TypeId}{ps:Array (Nat×Operand)}(hk:bZ D τ ⟨d,.build t ps,ty,pos,af,gd⟩ e b k):oh D τ ⟨d,.build t ps,ty,pos,af,gd⟩ e b k:=by
 unfold bZ at hk;simp only at hk;split at hk
 .rename_i n fs z ht;split at hk
  .rename_i ho;obtain⟨vs,h1,h2⟩:=En hk;cases hf:mD fs vs z with
   |none=>simp[hf]at h1
   |some cs =>
    simp only[hf]at h1;refine⟨_,_,h1,λe' b' k' hA h=>?_⟩;unfold bZ;simp only[ht,ho];refine h2 e' b' _ (λp hp=>hA.op p.2 (by simp only[Op.operands];exact iV.2 ⟨p,hp,rfl⟩)) (λi hi=>hA.bx i ?_) (by simp only[hf];exact h);simp only[tY,passes,cond_false,kV,EG,tZ,Op.operands];rw[List.flatMap_map];exact hi
  .rename_i ho;obtain⟨vs,f,h1,h2⟩:=sD hk;cases hf:mD fs vs z with
   |none=>simp[hf]at h1
   |some cs =>
    simp only[hf]at h1;refine⟨_,_,h1,λe' b' k' hA h=>?_⟩;unfold bZ;simp only[ht,ho];refine h2 e' b' _ (λp hp=>hA.op p.2 (by simp only[Op.operands];exact iV.2 ⟨p,hp,rfl⟩)) (λi hi=>hA.bx i ?_) (by simp only[hf];exact h);simp only[tY,passes,cond_false,kV,EG,tZ,Op.operands];rw[List.flatMap_map];exact hi
 .rename_i n s one z ht;obtain⟨vs,f,h1,h2⟩:=sD hk;cases hf:mD (EF s n 0) vs z with
  |none=>simp[hf]at h1
  |some cs =>
   simp only[hf]at h1;refine⟨_,_,h1,λe' b' k' hA h=>?_⟩;unfold bZ;simp only[ht];refine h2 e' b' _ (λp hp=>hA.op p.2 (by simp only[Op.operands];exact iV.2 ⟨p,hp,rfl⟩)) (λi hi=>hA.bx i ?_) (by simp only[hf];exact h);simp only[tY,passes,cond_false,kV,EG,tZ,Op.operands];rw[List.flatMap_map];exact hi
 .cases hk
theorem Cj{t:TypeId}{n:Nat}{ps:Array (Nat×Operand)}(hk:bZ D τ ⟨d,.buildSlice t n ps,ty,pos,af,gd⟩ e b k):oh D τ ⟨d,.buildSlice t n ps,ty,pos,af,gd⟩ e b k:=by
 unfold bZ at hk;simp only at hk;split at hk
 .rename_i e1 s by_ z ht ho;obtain⟨vs,f,h1,h2⟩:=sD hk;split at h1
  .rename_i es hl h3
   have fin:∀{v:AV} {g:aZ},(∀{k':AV->aZ->Prop},k' v g->(match Wn τ||Nat.beq n 0 with
    |true=>(match(generalizing:=false) d with
     |some d=>(match f.any λp=>Nat.beq p.1 d with|false=>k' (.gs d n) (f++[(d,.grow e1 s es)])|true=>False)
     |none=>False)
    |false=>k' (.c (.sl s es)) f))->k v g->oh D τ ⟨d,.buildSlice t n ps,ty,pos,af,gd⟩ e b k:=by
    intro v g hkk hkv;refine⟨_,_,hkv,λe' b' k' hA h=>?_⟩;unfold bZ;simp only[ht,ho];refine h2 e' b' _ (λp hp=>hA.op p.2 (by simp only[Op.operands];exact iV.2 ⟨p,hp,rfl⟩)) (λi hi=>hA.bx i ?_) (by simp only[hl,h3];exact hkk h);simp only[tY,passes,cond_false,kV,EG,tZ,Op.operands];rw[List.flatMap_map];exact hi
   split at h1
   .rename_i hm;split at h1
    .rename_i i;split at h1
     .rename_i hf;exact fin (fun {k'} hk'=>by simp only[hm,hf];exact hk') h1
     .cases h1
    .cases h1
   .rename_i hm;exact fin (fun {k'} hk'=>by simp only[hm];exact hk') h1
  .exact False.elim h1
 .cases hk
theorem EK{t:TypeId}{x y:Operand}(hk:bZ D τ ⟨d,.makeSlice t x y,ty,pos,af,gd⟩ e b k):oh D τ ⟨d,.makeSlice t x y,ty,pos,af,gd⟩ e b k:=by
 unfold bZ at hk;simp only at hk;split at hk
 .rename_i T s by_ z k1 l k2 c i h1 hx hy;obtain⟨n,m,h2,h3,h4,h5,hk1⟩:=hk;refine⟨_,_,hk1,λe' b' k' hA h=>?_⟩;unfold bZ;simp only[h1,hA.op x υ,hA.op y υ,hx,hy];exact⟨n,m,h2,h3,h4,h5,h⟩
 .cases hk
theorem fM{e e':Env}{x:Option Operand}(h:∀y∈x.toArray.toList,ae e' y=ae e y):vW e' x=vW e x:=by
 cases x with
 |none=>rfl
 |some y=>simp only[vW,h y η]
theorem Us{t:TypeId}{x:Operand}{lo hi mx:Option Operand}(hk:bZ D τ ⟨d,.slice t x lo hi mx,ty,pos,af,gd⟩ e b k):oh D τ ⟨d,.slice t x lo hi mx,ty,pos,af,gd⟩ e b k:=by
 unfold bZ at hk;simp only at hk;split at hk
 .rename_i T s by_ z s' es lo' hi' mx' h1 hx h2 h3 h4;split at hk
  .rename_i hs;obtain⟨p,q,m,q1,q2,q3,q4,q5,q6,q7,hk1⟩:=hk;refine⟨_,_,hk1,λe' b' k' hA h=>?_⟩;unfold bZ;simp only[h1,hA.op x υ,hx,fM (x:=lo) (λy hy=>hA.op y (by simp[Op.operands];simp at hy;simp[hy])),fM (x:=hi) (λy hy=>hA.op y (by simp[Op.operands];simp at hy;simp[hy])),fM (x:=mx) (λy hy=>hA.op y (by simp[Op.operands];simp at hy;simp[hy])),h2,h3,h4,hs];exact⟨p,q,m,q1,q2,q3,q4,q5,q6,q7,h⟩
  .cases hk
 .rename_i T s by_ z c n lo' hi' mx' h1 hx h2 h3 h4;obtain⟨v',f,hk1,hloc⟩:=jD hk;split at hk1
  .split at hk1
   .rename_i hs;obtain⟨p,q,m,q1,q2,q3,q4,q5,q6,q7,hk1⟩:=hk1;refine⟨_,_,hk1,λe' b' k' hA h=>?_⟩;unfold bZ;simp only[h1,hA.op x υ,hx,fM (x:=lo) (λy hy=>hA.op y (by simp[Op.operands];simp at hy;simp[hy])),fM (x:=hi) (λy hy=>hA.op y (by simp[Op.operands];simp at hy;simp[hy])),fM (x:=mx) (λy hy=>hA.op y (by simp[Op.operands];simp at hy;simp[hy])),h2,h3,h4];refine hloc b' _ (λi hi=>hA.bx i (by simp[dY]at hi;subst hi;simp[tY,passes,kV,tZ,Op.operands,kD,hx,dY])) ?_;simp only[hs];exact⟨p,q,m,q1,q2,q3,q4,q5,q6,q7,h⟩
   .cases hk1
  .cases hk1
 .rename_i s lo' hi' h1 hx h2 h3 h4;obtain⟨p,q,m,q1,q2,q3,q4,q5,q6,q7,hk1⟩:=hk;refine⟨_,_,hk1,λe' b' k' hA h=>?_⟩;unfold bZ;simp only[h1,hA.op x υ,hx,fM (x:=lo) (λy hy=>hA.op y (by simp[Op.operands];simp at hy;simp[hy])),fM (x:=hi) (λy hy=>hA.op y (by simp[Op.operands];simp at hy;simp[hy])),fM (x:=mx) (λy hy=>hA.op y (by simp[Op.operands];simp at hy;simp[hy])),h2,h3,h4];exact⟨p,q,m,q1,q2,q3,q4,q5,q6,q7,h⟩
 .rename_i n s one z i h1 hx h2 h3 h4;split at hk
  .rename_i cs hb hn hs;cases hch:chunk s n cs with
   |none=>rw[hch]at hk;cases hk
   |some es =>
    rw[hch]at hk;refine⟨_,_,hk,λe' b' k' hA h=>?_⟩;have hb':=hA.bx i (by simp[tY,passes,kV,tZ,Op.operands,kD,hx,dY]);unfold bZ;simp only[h1,hA.op x υ,hx,fM (x:=lo) (λy hy=>hA.op y (by simp[Op.operands];simp at hy;simp[hy])),fM (x:=hi) (λy hy=>hA.op y (by simp[Op.operands];simp at hy;simp[hy])),fM (x:=mx) (λy hy=>hA.op y (by simp[Op.operands];simp at hy;simp[hy])),h2,h3,h4,hb',hb,hn,hs,hch];exact h
  .cases hk
 .rename_i T s by_ z lo' hi' mx' h1 hx h2 h3 h4;obtain⟨p,q,m,q1,q2,q3,q4,q5,q6,q7,hk1⟩:=hk;refine⟨_,_,hk1,λe' b' k' hA h=>?_⟩;unfold bZ;simp only[h1,hA.op x υ,hx,fM (x:=lo) (λy hy=>hA.op y (by simp[Op.operands];simp at hy;simp[hy])),fM (x:=hi) (λy hy=>hA.op y (by simp[Op.operands];simp at hy;simp[hy])),fM (x:=mx) (λy hy=>hA.op y (by simp[Op.operands];simp at hy;simp[hy])),h2,h3,h4];exact⟨p,q,m,q1,q2,q3,q4,q5,q6,q7,h⟩
 .cases hk
end
section
variable {P:Program} [Wld P] [Kp] [Gr] {τ:Tab} {N:Nat} {w0:World} {X0:List Nat} {S:List Bx} {M:MM} {a:Act} {w:World} {e:Env} {b:aZ}
variable [WOk P w0]
variable {d:Option Nat} {ty:TypeId} {pos:String} {af:Array Edge} {gd:Option (Nat × Bool)} {k:AV->aZ->Prop}
inductive CallA (D:FuncId->List AV->AV->Prop) (τ:Tab) (e:Env) (d:Option Nat) (callee:Callee) (vs:List AV) (ts:List TypeId) (b:aZ) (k:AV->aZ->Prop):Prop where
 |fn (f:FuncId) (cap:List AV) (x:Operand) (h:callee=.value x) (hx:Gg e x=some (f,cap)) (hn:qA vs=none) (hs:wrH τ f vs=.no) (hk:jU (vs++cap) b λa_s fz=>CallP D f a_s λr=>mV d r λv g=>(match nU fz g with|true=>k v (qI r fz++g)|false=>False))
 |fnw (f:FuncId) (cap:List AV) (x:Operand) (i:Nat) (r:List AV) (h:callee=.value x) (hx:Gg e x=some (f,cap)) (hn:qA vs=some (i,r)) (hk:Dl D f i (r++cap) b k)
 |fns (f:FuncId) (cap:List AV) (x:Operand) (i n:Nat) (r:List AV) (h:callee=.value x) (hx:Gg e x=some (f,cap)) (hn:qA vs=none) (hs:wrH τ f vs=.s i n r) (hk:wJ D f i n (r++cap) b k)
 |fnn (f:FuncId) (cap:List AV) (x:Operand) (r:List AV) (h:callee=.value x) (hx:Gg e x=some (f,cap)) (hn:qA vs=none) (hs:wrH τ f vs=.nil r) (hk:jU (r++cap) b λa_s fz=>CallP D f (.c (.v (.slice none 0 0))::a_s) λr=>mV d r λv g=>(match nU fz g with|true=>k v (qI r fz++g)|false=>False))
 |lens (s:Nat) (es:List (List Cell)) (t:TypeId) (e' s' b':Nat) (z:List Cell) (h:callee=.builtin .len) (hv:vs=[.c (.sl s es)]) (ht:ts=[t]) (hl:ld t τ=some (.slice e' s' b' z)) (hk:k (.int .i64 (es.length:Nat)) [])
 |lenstr (s:ByteArray) (t:TypeId) (h:callee=.builtin .len) (hv:vs=[.c (.v (.string s))]) (ht:ts=[t]) (hl:ld t τ=some .str) (hk:k (.int .i64 (s.size:Nat)) [])
 |leng (i n:Nat) (x:Bk) (s:Nat) (es:List (List Cell)) (t:TypeId) (e' s' b':Nat) (z:List Cell) (h:callee=.builtin .len) (hv:vs=[.gs i n]) (ht:ts=[t]) (hb:ld i b=some x) (hx:(∃T,x=.grow T s es)\/x=.froz s es) (hl:ld t τ=some (.slice e' s' b' z)) (hn:n=es.length) (hk:k (.int .i64 (es.length:Nat)) [])
 |lenn (t e' s' b':Nat) (z:List Cell) (h:callee=.builtin .len) (hv:vs=[.c (.v (.slice none 0 0))]) (ht:ts=[t]) (hl:ld t τ=some (.slice e' s' b' z)) (hk:k (.int .i64 ((0:Nat):Int)) [])
 |app0n (t T s by_:Nat) (z:List Cell) (i:Nat) (h:callee=.builtin .append) (hv:vs=[.c (.v (.slice none 0 0)),.c (.v (.slice none 0 0))]) (ht:ts=[t,t]) (hl:ld t τ=some (.slice T s by_ z)) (hd:d=some i) (hk:k (.gs i 0) [(i,.grow T s [])])
 |appn (s:Nat) (es:List (List Cell)) (t T by_:Nat) (z:List Cell) (i n:Nat) (h:callee=.builtin .append) (hv:vs=[.gs i n,.c (.v (.slice none 0 0))]) (ht:ts=[t,t]) (hl:ld t τ=some (.slice T s by_ z)) (hx:ld i b=some (.grow T s es)) (hn:n=es.length) (hb:(es++[]).length*(by_+1)<=140737488355328) (hk:k (.gs i (es++[]).length) [(i,.grow T s (es++[]))])
 |app0 (s:Nat) (es':List (List Cell)) (t T by_:Nat) (z:List Cell) (i:Nat) (h:callee=.builtin .append) (hv:vs=[.c (.v (.slice none 0 0)),.c (.sl s es')]) (ht:ts=[t,t]) (hl:ld t τ=some (.slice T s by_ z)) (hd:d=some i) (hb:es'.length*(by_+1)<=140737488355328) (hk:k (.gs i es'.length) [(i,.grow T s es')])
 |app (s:Nat) (es es':List (List Cell)) (t T by_:Nat) (z:List Cell) (i n:Nat) (h:callee=.builtin .append) (hv:vs=[.gs i n,.c (.sl s es')]) (ht:ts=[t,t]) (hl:ld t τ=some (.slice T s by_ z)) (hx:ld i b=some (.grow T s es)) (hn:n=es.length) (hb:(es++es').length*(by_+1)<=140737488355328) (hk:k (.gs i (es++es').length) [(i,.grow T s (es++es'))])
 |app0g (s c m:Nat) (es':List (List Cell)) (f:aZ) (t T by_:Nat) (z:List Cell) (i:Nat) (h:callee=.builtin .append) (hv:vs=[.c (.v (.slice none 0 0)),.gs c m]) (ht:ts=[t,t]) (hl:ld t τ=some (.slice T s by_ z)) (hd:d=some i) (ha:jQ b (.gs c m) λv g=>v=.c (.sl s es')/\g=f) (hi:(f.any λp=>Nat.beq p.1 i)=false) (hb:es'.length*(by_+1)<=140737488355328) (hk:k (.gs i es'.length) (f++[(i,.grow T s es')]))
 |appg (s c m:Nat) (es es':List (List Cell)) (f:aZ) (t T by_:Nat) (z:List Cell) (i n:Nat) (h:callee=.builtin .append) (hv:vs=[.gs i n,.gs c m]) (ht:ts=[t,t]) (hl:ld t τ=some (.slice T s by_ z)) (hx:ld i b=some (.grow T s es)) (hic:¬i=c) (ha:jQ b (.gs c m) λv g=>v=.c (.sl s es')/\g=f) (hn:n=es.length) (hb:(es++es').length*(by_+1)<=140737488355328) (hk:k (.gs i (es++es').length) (f++[(i,.grow T s (es++es'))]))
 |min (ki:IntKind) (n0 n1:Int) (ns:List Int) (r:List AV) (h:callee=.builtin .min) (hv:vs=.c (.v (.int ki n1))::r) (hn:je Es vs=some (n0::ns)) (hk:k (.int ki (ns.foldl (λx y=>if y<x then y else x) n0)) [])
 |max (ki:IntKind) (n0 n1:Int) (ns:List Int) (r:List AV) (h:callee=.builtin .max) (hv:vs=.c (.v (.int ki n1))::r) (hn:je Es vs=some (n0::ns)) (hk:k (.int ki (ns.foldl (λx y=>if y>x then y else x) n0)) [])
theorem XB{D:FuncId->List AV->AV->Prop}{callee:Callee}{xs:Array Operand}{ts:Array TypeId}(hk:bZ D τ ⟨d,.call ⟨callee,xs,ts⟩,ty,pos,af,gd⟩ e b k):
 ∃vs,je (λx=>ae e x) xs.toList=some vs/\CallA D τ e d callee vs ts.toList b k:=by
 unfold bZ at hk;simp only at hk;split at hk
 .rename_i x vs hv;split at hk
  .rename_i f cap hx hn;split at hk
   .rename_i i n r hs;exact⟨_,hv,.fns f cap x i n r rfl hx hn hs hk⟩
   .rename_i r hs;exact⟨_,hv,.fnn f cap x r rfl hx hn hs hk⟩
   .rename_i hs;exact⟨_,hv,.fn f cap x rfl hx hn hs hk⟩
  .rename_i f cap i r hx hn;exact⟨_,hv,.fnw f cap x i r rfl hx hn hk⟩
  .exact False.elim hk
 .rename_i s es hv;split at hk
  .rename_i t ht;split at hk
   .rename_i e' s' b' z hl;exact⟨_,hv,.lens s es t e' s' b' z rfl rfl ht hl hk⟩
   .cases hk
  .cases hk
 .rename_i s hv;split at hk
  .rename_i t ht;split at hk
   .rename_i hl;exact⟨_,hv,.lenstr s t rfl rfl ht hl hk⟩
   .cases hk
  .cases hk
 .rename_i i n hv;split at hk
  .rename_i t T s es ht hb;split at hk
   .rename_i e' s' b' z hl;exact⟨_,hv,.leng i n _ s es t e' s' b' z rfl rfl ht hb (.inl ⟨T,rfl⟩) hl hk.p hk.k⟩
   .cases hk
  .rename_i t s es ht hb;split at hk
   .rename_i e' s' b' z hl;exact⟨_,hv,.leng i n _ s es t e' s' b' z rfl rfl ht hb (.inr rfl) hl hk.p hk.k⟩
   .cases hk
  .cases hk
 .rename_i hv;split at hk
  .rename_i t ht;split at hk
   .rename_i e' s' b' z hl;exact⟨_,hv,.lenn t e' s' b' z rfl rfl ht hl hk⟩
   .cases hk
  .cases hk
 .rename_i x y hv;split at hk
  .rename_i t t' ht;split at hk
   .rename_i T s by_ z htt hl;have:=jX htt;subst this;split at hk
    .rename_i c m;split at hk
     .rename_i i n;obtain⟨v',f,h1,h2⟩:=jD hk;have ha:∀{x:AV} {f':aZ},v'=x->f=f'->jQ b (.gs c m) λv g=>v=x/\g=f':=λe1 e2=>h2 b _ (λ_ _=>rfl) ⟨e1,e2⟩
      split at h1
      .rename_i s' es' T' s'' es hb hbc;split at h1
       .rename_i hT hs2 hs;have e1:=jX hT;have e2:=jX hs2;have e3:=jX hs;subst e1 e2 e3;exact⟨_,hv,.appg s c m es es' f t T by_ z i n rfl rfl ht hl hb (λe=>by subst e;simp at hbc) (ha rfl rfl) h1.p h1.k.p h1.k.k⟩
       .cases h1
      .cases h1
     .obtain⟨v',f,h1,h2⟩:=jD hk;have ha:∀{x:AV} {f':aZ},v'=x->f=f'->jQ b (.gs c m) λv g=>v=x/\g=f':=λe1 e2=>h2 b _ (λ_ _=>rfl) ⟨e1,e2⟩
      split at h1
      .rename_i s' es' i;split at h1
       .rename_i hs hi;have e3:=jX hs;subst e3;exact⟨_,hv,.app0g s c m es' f t T by_ z i rfl rfl ht hl rfl (ha rfl rfl) hi h1.p h1.k⟩
       .cases h1
      .cases h1
     .cases hk
    .split at hk
     .split at hk
      .rename_i i;exact⟨_,hv,.app0n t T s by_ z i rfl rfl ht hl rfl hk⟩
      .cases hk
     .rename_i i n;split at hk
      .rename_i T' s'' es hb;split at hk
       .rename_i hT hs2;have h1:=jX hT;have h2:=jX hs2;subst h1 h2;exact⟨_,hv,.appn s es t T by_ z i n rfl rfl ht hl hb hk.p hk.k.p hk.k.k⟩
       .cases hk
      .cases hk
     .cases hk
    .rename_i s' es';split at hk
     .rename_i hs;have:=jX hs;subst this;split at hk
      .split at hk
       .rename_i i;exact⟨_,hv,.app0 s es' t T by_ z i rfl rfl ht hl rfl hk.p hk.k⟩
       .cases hk
      .rename_i i n;split at hk
       .rename_i T' s'' es hb;split at hk
        .rename_i hT hs2;have h1:=jX hT;have h2:=jX hs2;subst h1 h2;exact⟨_,hv,.app s es es' t T by_ z i n rfl rfl ht hl hb hk.p hk.k.p hk.k.k⟩
        .cases hk
       .cases hk
      .cases hk
     .cases hk
    .cases hk
   .cases hk
  .cases hk
 .rename_i vs hv;split at hk
  .rename_i n0 ns ki n1 r hn;exact⟨_,hv,.min ki n0 n1 ns r rfl rfl hn hk⟩
  .cases hk
 .rename_i vs hv;split at hk
  .rename_i n0 ns ki n1 r hn;exact⟨_,hv,.max ki n0 n1 ns r rfl rfl hn hk⟩
  .cases hk
 .cases hk
theorem gs_len{c m:Nat}{v0:AV}{f0:aZ}(h:Sta N w0 X0 S M a w e b)(ha:jQ b (.gs c m) λv g=>v=v0/\g=f0){mb:MB}(hm:M c=some mb):mb.n=m:=by
 unfold jQ at ha;simp only at ha;split at ha
 .rename_i T s es hb;obtain⟨m',hm',q1,q2,q3,q4,q5,q6⟩:=h.box c _ hb;rw[hm]at hm';cases hm';have:=ha.p;omega
 .rename_i s es hb;obtain⟨m',hm',q1,q2,q3,q4⟩:=h.box c _ hb;rw[hm]at hm';cases hm';have:=ha.p;omega
 .cases ha
theorem aaD{c m:Nat}{v0:AV}{f0:aZ}(ha:jQ b (.gs c m) λv g=>v=v0/\g=f0):∀i∈f0.map (·.1),i=c:=by
 unfold jQ at ha;simp only at ha;split at ha
 .have:=ha.k.2;subst this;simp
 .have:=ha.k.2;subst this;simp
 .cases ha
theorem WA{c:Call}(hτ:dQ P τ=true)(h:Sta N w0 X0 S M a w e b)(hk:bZ (Den P) τ ⟨d,.call c,ty,pos,af,gd⟩ e b k):Good P w0 X0 S M a w ⟨d,.call c,ty,pos,af,gd⟩ k:=by
 obtain⟨callee,xs,ts⟩:=c;obtain⟨vs,hv,hc⟩:=XB hk;have hta:∀{l:List TypeId},ts.toList=l->ts=l.toArray:=λh=>Jv (by simpa using h)
 cases hc with
 |fn f cap x h1 hx hn hs hk1=>subst h1;exact abW hx h hv hk1
 |fnw f cap x i r h1 hx hn hk1=>subst h1;rw[rV hn]at hv;exact Vl hx h hv hk1
 |fns f cap x i n r h1 hx hn hs hk1=>subst h1;rw[Lj hs]at hv;exact afr hx h hv hk1
 |fnn f cap x r h1 hx hn hs hk1=>subst h1;rw[P6 hs]at hv;exact Y6 hx h hv hk1
 |lens s es t e' s' b' z h1 h2 h3 h4 hk1 =>
  subst h1 h2;rw[hta h3];exact rJ (bU hτ h4) h hv (λu hu=>by obtain⟨A,cap,uss,ha,_⟩:=RepS.of_sl hu.sl_;exact⟨A,cap,ha⟩) hk1
 |lenstr s t h1 h2 h3 h4 hk1 =>
  subst h1 h2;rw[hta h3];obtain⟨us,hu,hl,hr⟩:=rX h hv
  obtain⟨u,rfl⟩:∃u,us=[u]:=by
   match us,hl with
   |[u],_=>exact⟨u,rfl⟩
  have hue:=(hr 0 u _ rfl rfl).v_;subst hue;refine .val h.ms hk1 (u:=.int .i64 s.size) ?_ (.d (.c (.v _ rfl)));simp[execOp,resolve,invoke,builtin,hu,Builtin.len_,run_underlying (SX (bU hτ h4)),goInt]
 |leng i n x s es t e' s' b' z h1 h2 h3 h4 h5 h6 h7 hk1 =>
  subst h1 h2;rw[hta h3];refine rJ (bU hτ h6) h hv (λu hu=>?_) hk1;obtain⟨m,hm,q1,q2,q3,_⟩:=h.elems h4 h5;obtain⟨m',hm',hvv,hn⟩:=hu.gs_;rw[hm]at hm';cases hm';rw[hn ω];unfold hdr;exact⟨_,_,by rw[q3]⟩
 |lenn t e' s' b' z h1 h2 h3 h4 hk1 =>
  subst h1 h2;rw[hta h3];exact rJ (bU hτ h4) h hv (λu hu=>⟨none,0,hu.v_⟩) hk1
 |app0n t T s by_ z i h1 h2 h3 h4 h5 hk1 =>
  subst h1 h2;rw[hta h3];exact lD (es':=[]) (bU hτ h4) h hv h.ms (Chg.refl _ _ _) (FrzOnly.nil _) (λu hu=>by rw[hu.v_];exact .c (RepC.nil _ _ _)) (.inl ⟨rfl,i,h5,η,η,hk1⟩)
 |appn s es t T by_ z i n h1 h2 h3 h4 h5 h6 h7 hk1 =>
  subst h1 h2;rw[hta h3];exact lD (es':=[]) (bU hτ h4) h hv h.ms (Chg.refl _ _ _) (FrzOnly.nil _) (λu hu=>by rw[hu.v_];exact .c (RepC.nil _ _ _)) (.inr ⟨i,n,es,rfl,η,h5,h6,h7,hk1⟩)
 |app0 s es' t T by_ z i h1 h2 h3 h4 h5 h6 hk1 =>
  subst h1 h2;rw[hta h3];exact lD (bU hτ h4) h hv h.ms (Chg.refl _ _ _) (FrzOnly.nil _) (λu hu => .c hu.sl_) (.inl ⟨rfl,i,h5,η,h6,hk1⟩)
 |app0g s c m es' f t T by_ z i h1 h2 h3 h4 h5 h6 h7 h8 hk1 =>
  subst h1 h2;rw[hta h3];obtain⟨us,hu,hl,hr⟩:=rX h hv
  obtain⟨u0,u1,rfl⟩:∃u0 u1,us=[u0,u1]:=by
   match us,hl with
   |[u0,u1],_=>exact⟨u0,u1,rfl⟩
  obtain⟨v',f',S1,M1,⟨rfl,rfl⟩,hm1,hc1,hd1,hfo⟩:=qB h (hr 1 u1 _ rfl rfl) h6
  have huq:∀u,RepV w (bl S++X0) M u (.gs c m)->RepD w (bl S1++X0) u (.c (.sl s es')):=λu hu=>by
   obtain⟨mb,q1,q2,q3⟩:=hu.gs_;obtain⟨mb',q1',q2',q3'⟩:=(hr 1 u1 _ rfl rfl).gs_;rw[q1]at q1';cases q1';have hn:mb.n=m:=gs_len h h6 q1;rw[q3 hn,<-q3' hn];exact hd1
  refine lD (bU hτ h4) h hv hm1 hc1 hfo huq (.inl ⟨rfl,i,h5,λhm=>?_,h8,hk1⟩);obtain⟨p,hp,hpe⟩:=iV.1 hm;have:=JX.1 h7 p hp;rw[hpe]at this;simp at this
 |app s es es' t T by_ z i n h1 h2 h3 h4 h5 h6 h7 hk1 =>
  subst h1 h2;rw[hta h3];exact lD (bU hτ h4) h hv h.ms (Chg.refl _ _ _) (FrzOnly.nil _) (λu hu => .c hu.sl_) (.inr ⟨i,n,es,rfl,η,h5,h6,h7,hk1⟩)
 |appg s c m es es' f t T by_ z i n h1 h2 h3 h4 h5 h6 h7 h8 h9 hk1 =>
  subst h1 h2;rw[hta h3];obtain⟨us,hu,hl,hr⟩:=rX h hv
  obtain⟨u0,u1,rfl⟩:∃u0 u1,us=[u0,u1]:=by
   match us,hl with
   |[u0,u1],_=>exact⟨u0,u1,rfl⟩
  have hkeys:=aaD h7;obtain⟨v',f',S1,M1,⟨rfl,rfl⟩,hm1,hc1,hd1,hfo⟩:=qB h (hr 1 u1 _ rfl rfl) h7
  have huq:∀u,RepV w (bl S++X0) M u (.gs c m)->RepD w (bl S1++X0) u (.c (.sl s es')):=λu hu=>by
   obtain⟨mb,q1,q2,q3⟩:=hu.gs_;obtain⟨mb',q1',q2',q3'⟩:=(hr 1 u1 _ rfl rfl).gs_;rw[q1]at q1';cases q1';have hn:mb.n=m:=gs_len h h7 q1;rw[q3 hn,<-q3' hn];exact hd1
  exact lD (bU hτ h4) h hv hm1 hc1 hfo huq (.inr ⟨i,n,es,rfl,λhm=>h6 (hkeys i hm),h5,h8,h9,hk1⟩)
 |min ki n0 n1 ns r h1 h2 h3 hk1=>subst h1 h2;exact Ak false h hv h3 (by simpa using hk1)
 |max ki n0 n1 ns r h1 h2 h3 hk1=>subst h1 h2;exact Ak true h hv h3 (by simpa using hk1)
theorem Q7{r:AV}{fz:aZ}(hkr:mV d r λv g=>(match nU fz g with|true=>k v (qI r fz++g)|false=>False)):∃v g,k v g/\∀k':AV->aZ->Prop,k' v g->mV d r λv g=>(match nU fz g with|true=>k' v (qI r fz++g)|false=>False):=by
 rcases CB hkr with⟨hno,hk2,h4⟩|⟨T,s,es,i,rfl,rfl,hk2,h4⟩|⟨vs',i,V,F,rfl,rfl,hle,hVF,hk2,h4⟩
 .exact⟨_,_,hk2,λk' hk'=>(by
   have h5:∀{q:AV->aZ->Prop},q r []->mV d r q:=fun {q} hq=>by
    unfold mV;cases r<;>first|exact hq|(simp[BJ]at hno;done)|skip
    rename_i vs'
    have:vs'.any oQ=false:=by
     rw[JX];intro y hy;have:=oH.1 hno y hy;simpa using this
    simp only[this];exact hq
   exact h5 hk')⟩
 .split at hk2
  .rename_i hdj;exact⟨_,_,hk2,λk' hk'=>by unfold mV;simp only[hdj];exact hk'⟩
  .cases hk2
 .split at hk2
  .rename_i hdj;refine⟨_,_,hk2,λk' hk'=>?_⟩;unfold mV at hkr ⊢;simp only at hkr ⊢;cases hq:vs'.any oQ with
   |false =>
    simp only[hq]at hkr ⊢
    have hall:(vs'.all λv=>!oQ v)=true:=oH.2 λy hy=>by
     have:=JX.1 hq y hy;simpa using this
    have hV:V=vs'/\F=[]:=by
     have key:∀{vs:List AV} {i j:Nat} {k:List AV->aZ->Prop},(vs.all λv=>!oQ v)=true->nD i j vs k->k vs []:=by
      intro vs;induction vs with
      |nil=>intro i j k _ h;exact h
      |cons v r ih =>
       intro i j k h hk;simp only[List.all_cons,gX]at h
       cases v<;>first
        |(simp[oQ]at h;done)|exact ih (k:=λvs f=>k (_::vs) f) h.2 hk
     have:=key (i:=i) (j:=KK) (k:=λa c=>V=a/\F=c) hall (by rw[hVF];exact⟨rfl,rfl⟩);exact this
    obtain⟨rfl,rfl⟩:=hV;simp only[hdj];exact hk'
   |true =>
    simp only[Nat.ble_eq_true_of_le hle];rw[hVF];simp only[hdj];exact hk'
  .cases hk2
theorem Yt{D:FuncId->List AV->AV->Prop}{c:Call}(hk:bZ D τ ⟨d,.call c,ty,pos,af,gd⟩ e b k):oh D τ ⟨d,.call c,ty,pos,af,gd⟩ e b k:=by
 obtain⟨callee,xs,ts⟩:=c;obtain⟨vs,hv,hc⟩:=XB hk
 have hops:∀{e' b'},Alike ⟨d,.call ⟨callee,xs,ts⟩,ty,pos,af,gd⟩ e b e' b'->je (λx=>ae e' x) xs.toList=some vs:=by
  intro e' b' hA;rw[<-hv];exact sG λx hx=>hA.op x (by simp only[Op.operands,Call.operands];simp only[Array.toList_append];exact qP _ hx)
 have hfnA:∀{e' b'} {x:Operand},Alike ⟨d,.call ⟨callee,xs,ts⟩,ty,pos,af,gd⟩ e b e' b'->callee=.value x->Gg e' x=Gg e x:=by
  intro e' b' x hA hc;subst hc;unfold Gg;rw[hA.op x (by simp[Op.operands,Call.operands])]
 have hids:∀{e' b'},Alike ⟨d,.call ⟨callee,xs,ts⟩,ty,pos,af,gd⟩ e b e' b'->xG (vs.flatMap dY) b b':=by
  intro e' b' hA i hi;refine hA.bx i ?_;simp only[tY,passes,cond_false,kV,EG,tZ,Op.operands,Call.operands,Array.toList_append];rw[qbO,Dc hv]at *;exact qP _ hi
 have hcap:∀{f:FuncId} {cap:List AV} {x:Operand},Gg e x=some (f,cap)->cap.flatMap dY=[]:=by
  intro f cap x hx;unfold Gg at hx;split at hx
  .split at hx
   .cases hx;rfl
   .cases hx
  .rename_i f' cs hu;cases hx;induction cs with
   |nil=>rfl
   |cons c r ih=>rw[xZ,Jy];simpa[dY]using ih
  .cases hx
 cases hc with
 |fn f cap x h1 hx hn hs hk1 =>
  subst h1;have hfx:=fun {e' b'} (hA:Alike ⟨d,.call ⟨.value x,xs,ts⟩,ty,pos,af,gd⟩ e b e' b')=>hfnA hA rfl
  obtain⟨a_s,fz,⟨r,hr,hkr⟩,h3⟩:=mO hk1;obtain⟨v,g,hkv,h4⟩:=Q7 hkr;refine⟨_,_,hkv,λe' b' k' hA h=>?_⟩;unfold bZ;simp only[hops hA,hfx hA,hx,hn,hs]
  .refine h3 b' _ (λi hi=>?_) ⟨r,hr,h4 _ h⟩;rw[qbO,hcap hx,EG]at hi;exact hids hA i hi
 |fnw f cap x i r h1 hx hn hk1 =>
  subst h1;have hfx:=fun {e' b'} (hA:Alike ⟨d,.call ⟨.value x,xs,ts⟩,ty,pos,af,gd⟩ e b e' b')=>hfnA hA rfl
  rcases CU hk1 with⟨cs,hbx,hk1⟩|⟨G,hbx,hk1⟩
  case inr =>
   obtain⟨a_s,fz,hk2,h3⟩:=mO hk1
   match fz,hk2,h3 with
   |_::_,hk2,_=>exact False.elim hk2
   |[],⟨q,hq,hkq⟩,h3 =>
   obtain⟨G',v,rfl,hpl,hkv⟩:=Ae hkq;refine⟨_,_,hkv,λe' b' k' hA h=>?_⟩;have hvs:=rV hn;have hid:=hids hA;unfold bZ;simp only[hops hA,hfx hA,hx,hn];unfold Dl;rw[hid i (by rw[hvs];simp[dY]),hbx];exact h3 b' _ (λj hj=>hid j (by rw[qbO,hcap hx,EG]at hj;rw[hvs,Jy];exact qP _ hj)) ⟨_,hq,by unfold zG;simp only[hpl];exact h⟩
  obtain⟨a_s,fz,hk2,h3⟩:=mO hk1
  match fz,hk2,h3 with
  |_::_,hk2,_=>exact False.elim hk2
  |[],⟨q,hq,hkq⟩,h3 =>
  obtain⟨cs',v,rfl,hpl,hkv⟩:=D7 hkq;refine⟨_,_,hkv,λe' b' k' hA h=>?_⟩;have hvs:=rV hn;have hid:=hids hA;unfold bZ;simp only[hops hA,hfx hA,hx,hn];unfold Dl;rw[hid i (by rw[hvs];simp[dY]),hbx];exact h3 b' _ (λj hj=>hid j (by rw[qbO,hcap hx,EG]at hj;rw[hvs,Jy];exact qP _ hj)) ⟨_,hq,by unfold LH;simp only[hpl];exact h⟩
 |fnn f cap x r0 h1 hx hn hs hk1 =>
  subst h1;have hfx:=fun {e' b'} (hA:Alike ⟨d,.call ⟨.value x,xs,ts⟩,ty,pos,af,gd⟩ e b e' b')=>hfnA hA rfl
  obtain⟨a_s,fz,⟨r,hr,hkr⟩,h3⟩:=mO hk1;obtain⟨v,g,hkv,h4⟩:=Q7 hkr;refine⟨_,_,hkv,λe' b' k' hA h=>?_⟩;unfold bZ;simp only[hops hA,hfx hA,hx,hn,hs];refine h3 b' _ (λi hi=>?_) ⟨r,hr,h4 _ h⟩;rw[qbO,hcap hx,EG]at hi;exact hids hA i (by rw[P6 hs,Jy];exact qP _ hi)
 |fns f cap x i n r h1 hx hn hs hk1 =>
  subst h1;have hfx:=fun {e' b'} (hA:Alike ⟨d,.call ⟨.value x,xs,ts⟩,ty,pos,af,gd⟩ e b e' b')=>hfnA hA rfl
  obtain⟨T,s,es,hbx,hk1⟩:=BR hk1;obtain⟨a_s,fz,hk2,h3⟩:=mO hk1
  match fz,hk2,h3 with
  |_::_,hk2,_=>exact False.elim hk2
  |[],⟨hp,hlen⟩,h3 =>
  have hvs:=Lj hs;rcases yD es.length with hz|hpos
  .obtain⟨q,hq,hkq⟩:=hlen.f hz;obtain⟨hpl,hkv⟩:=Aj hkq;refine⟨_,_,hkv,λe' b' k' hA h=>?_⟩;have hid:=hids hA;unfold bZ;simp only[hops hA,hfx hA,hx,hn,hs];unfold wJ;rw[hid i (by rw[hvs];simp[dY]),hbx];exact h3 b' _ (λj hj=>hid j (by rw[qbO,hcap hx,EG]at hj;rw[hvs,Jy];exact qP _ hj)) ⟨hp,⟨λh0=>absurd hz ω,λ_=>⟨_,hq,by unfold zI;rw[hpl];exact h⟩⟩⟩
  obtain⟨q,hq,hkq⟩:=hlen.t hpos;rcases zX hkq with⟨es',v,rfl,hpl,hkv⟩|⟨v,rfl,hpl,hkv⟩
  all_goals refine⟨_,_,hkv,λe' b' k' hA h=>?_⟩
  .have hid:=hids hA;unfold bZ;simp only[hops hA,hfx hA,hx,hn,hs];unfold wJ;rw[hid i (by rw[hvs];simp[dY]),hbx];exact h3 b' _ (λj hj=>hid j (by rw[qbO,hcap hx,EG]at hj;rw[hvs,Jy];exact qP _ hj)) ⟨hp,⟨λ_=>⟨_,hq,by unfold uG;simp only[Zq,hpl];exact h⟩,λh0=>absurd h0 ω⟩⟩
  .have hid:=hids hA;unfold bZ;simp only[hops hA,hfx hA,hx,hn,hs];unfold wJ;rw[hid i (by rw[hvs];simp[dY]),hbx];exact h3 b' _ (λj hj=>hid j (by rw[qbO,hcap hx,EG]at hj;rw[hvs,Jy];exact qP _ hj)) ⟨hp,⟨λ_=>⟨_,hq,by unfold uG;simp only[hpl];exact h⟩,λh0=>absurd h0 ω⟩⟩
 |lens s es t e' s' b' z h1 h2 h3 h4 hk1 =>
  subst h1 h2;refine⟨_,_,hk1,λe' b' k' hA h=>?_⟩;unfold bZ;simp only[hops hA,h3,h4];exact h
 |lenstr s t h1 h2 h3 h4 hk1 =>
  subst h1 h2;refine⟨_,_,hk1,λe' b' k' hA h=>?_⟩;unfold bZ;simp only[hops hA,h3,h4];exact h
 |leng i n x s es t e' s' b' z h1 h2 h3 h4 h5 h6 h7 hk1 =>
  subst h1 h2;refine⟨_,_,hk1,λe' b' k' hA h=>?_⟩;have hb':=hids hA i (by simp[dY]);unfold bZ;rcases h5 with⟨T,rfl⟩|rfl
  .simp only[hops hA,h3,hb',h4,h6];exact⟨h7,h⟩
  .simp only[hops hA,h3,hb',h4,h6];exact⟨h7,h⟩
 |app0 s es' t T by_ z i h1 h2 h3 h4 h5 h6 hk1 =>
  subst h1 h2 h5;refine⟨_,_,hk1,λe' b' k' hA h=>?_⟩;unfold bZ;simp only[hops hA,h3,h4,Zq];exact⟨h6,h⟩
 |app0g s c m es' f t T by_ z i h1 h2 h3 h4 h5 h6 h7 h8 hk1 =>
  subst h1 h2 h5;refine⟨_,_,hk1,λe' b' k' hA h=>?_⟩;obtain⟨v',f',⟨rfl,rfl⟩,h9⟩:=jD h6;unfold bZ;simp only[hops hA,h3,h4,Zq];refine h9 b' _ (λj hj=>hids hA j (by simp only[Jy];exact qP _ (yQ _ hj))) ?_;simp only[Zq,h7];exact⟨h8,h⟩
 |appg s c m es es' f t T by_ z i n h1 h2 h3 h4 h5 h6 h7 h8 h9 hk1 =>
  subst h1 h2;refine⟨_,_,hk1,λe' b' k' hA h=>?_⟩;have hb':=hids hA i (by simp[dY]);obtain⟨v',f',⟨rfl,rfl⟩,h10⟩:=jD h7;unfold bZ;simp only[hops hA,h3,h4,Zq];refine h10 b' _ (λj hj=>hids hA j (by simp[dY]at hj ⊢;exact .inr hj)) ?_;simp only[hb',h5,Zq,gI h6];exact⟨h8,⟨h9,h⟩⟩
 |app s es es' t T by_ z i n h1 h2 h3 h4 h5 h6 h7 hk1 =>
  subst h1 h2;refine⟨_,_,hk1,λe' b' k' hA h=>?_⟩;have hb':=hids hA i (by simp[dY]);unfold bZ;simp only[hops hA,h3,h4,hb',h5,Zq];exact⟨h6,⟨h7,h⟩⟩
 |lenn t e' s' b' z h1 h2 h3 h4 hk1 =>
  subst h1 h2;refine⟨_,_,hk1,λe' b' k' hA h=>?_⟩;unfold bZ;simp only[hops hA,h3,h4];exact h
 |app0n t T s by_ z i h1 h2 h3 h4 h5 hk1 =>
  subst h1 h2 h5;refine⟨_,_,hk1,λe' b' k' hA h=>?_⟩;unfold bZ;simp only[hops hA,h3,h4,Zq];exact h
 |appn s es t T by_ z i n h1 h2 h3 h4 h5 h6 h7 hk1 =>
  subst h1 h2;refine⟨_,_,hk1,λe' b' k' hA h=>?_⟩;have hb':=hids hA i (by simp[dY]);unfold bZ;simp only[hops hA,h3,h4,hb',h5,Zq];exact⟨h6,⟨h7,h⟩⟩
 |min ki n0 n1 ns r h1 h2 h3 hk1 =>
  subst h1 h2;refine⟨_,_,hk1,λe' b' k' hA h=>?_⟩;unfold bZ;simp only[hops hA,h3];exact h
 |max ki n0 n1 ns r h1 h2 h3 hk1 =>
  subst h1 h2;refine⟨_,_,hk1,λe' b' k' hA h=>?_⟩;unfold bZ;simp only[hops hA,h3];exact h
theorem CX{o:Oper}(hτ:dQ P τ=true)(h:Sta N w0 X0 S M a w e b)(hk:bZ (Den P) τ o e b k):Good P w0 X0 S M a w o k:=by
 obtain⟨d,op,ty,pos,af,gd⟩:=o;cases op with
 |move x=>exact VP (τ:=τ) h hk
 |assign x=>exact Nw hτ h hk
 |pick x y z=>exact Vp h hk
 |alloc t=>exact Tz hτ h hk
 |box t x=>exact abV h hk
 |load t x=>exact Yu hτ h hk
 |store t x y=>exact Uk hτ h hk
 |fieldAddr t x i=>exact E8 hτ h hk
 |field t x i=>exact TY hτ h hk
 |indexAddr t x y=>exact Et hτ h hk
 |index t x y=>exact Ti hτ h hk
 |extract x i=>exact Jz h hk
 |binOp op t x y u=>exact aa0 hτ h hk
 |unOp op t x =>
  cases op with
  |not=>exact ab6 h hk
  |neg=>exact aaf h hk
  |_=>exact False.elim hk
 |convert s t x=>exact XJ hτ h hk
 |build t ps=>exact UQ hτ h hk
 |buildSlice t n ps=>exact DV hτ h hk
 |makeFunc fn first captured=>exact Ho h hk
 |call c=>exact WA hτ h hk
 |makeSlice t x y=>exact Eu hτ h hk
 |slice t x lo hi mx=>exact RY hτ h hk
 |nilCheck x=>exact Io h hk
 |_=>exact False.elim hk
theorem JH{D:FuncId->List AV->AV->Prop}{o:Oper}(hk:bZ D τ o e b k):oh D τ o e b k:=by
 obtain⟨d,op,ty,pos,af,gd⟩:=o;cases op with
 |move x=>exact Yv hk
 |assign x=>exact Om hk
 |pick x y z=>exact Xf hk
 |alloc t=>exact RX hk
 |box t x=>exact ab2 hk
 |load t x=>exact XK hk
 |store t x y=>exact Ux hk
 |fieldAddr t x i=>exact ER hk
 |field t x i=>exact Sz hk
 |indexAddr t x y=>exact EL hk
 |index t x y=>exact Ut hk
 |extract x i=>exact JR hk
 |binOp op t x y u=>exact abP hk
 |unOp op t x =>
  cases op with
  |not=>exact abp hk
  |neg=>exact Z8 hk
  |_=>exact False.elim hk
 |convert s t x=>exact XR hk
 |build t ps=>exact UK hk
 |buildSlice t n ps=>exact Cj hk
 |makeFunc fn first captured=>exact Iw hk
 |call c=>exact Yt hk
 |makeSlice t x y=>exact EK hk
 |slice t x lo hi mx=>exact Us hk
 |nilCheck x=>exact IQ hk
 |_=>exact False.elim hk
theorem Zj{t:TypeId}{x:Operand}{v:AV}{c:Nat}(h:c∈tZ ⟨d,.load t x,ty,pos,af,gd⟩ e):c∈U1 ⟨d,.load t x,ty,pos,af,gd⟩ e b v:=by
 cases v<;>simp only[U1,tY,passes,cond_false]<;>first|exact h|exact yQ _ h
theorem afA{t:TypeId}{x:Operand}{v:AV}{c:Nat}(hv:∀i n,v ≠ .gs i n)(h:c∈tY ⟨d,.load t x,ty,pos,af,gd⟩ e b):c∈U1 ⟨d,.load t x,ty,pos,af,gd⟩ e b v:=by
 cases v<;>simp only[U1]<;>first|exact h|exact absurd rfl (hv _ _)
theorem Nb{ti:TI}{cs:List Cell}{b:aZ}{k:AV->aZ->Prop}(hk:uJ ti cs b k):∃v f,k v f/\∀(b':aZ) (k':AV->aZ->Prop),((∀i n,v ≠ .gs i n)->xG (lJ cs) b b')->k' v f->uJ ti cs b' k':=by
 unfold uJ at hk;split at hk
 .rename_i n hn;split at hk
  .rename_i l hl;obtain⟨cs',f,h1,h2⟩:=sV hk;refine⟨_,_,h1,λb' k' hB h=>?_⟩;unfold uJ;simp only[hn,hl];exact h2 b' _ (λi hi=>hB (λ_ _ h=>by cases h) i (zo hl i hi)) h
  .cases hk
 .rename_i hn;cases ti<;>(try simp only at hk)<;>first|(cases hk;done)|(simp[YU]at hn;done)|skip
  all_goals(cases cs with
   |nil=>cases hk
   |cons c r=>exact⟨_,_,hk,λb' k' hB h=>h⟩)
theorem UE{D:FuncId->List AV->AV->Prop}{t:TypeId}{x:Operand}(hk:bZ D τ ⟨d,.load t x,ty,pos,af,gd⟩ e b k):∃v f,k v f/\∀(e':Env) (b':aZ) (k':AV->aZ->Prop),ae e' x=ae e x->xG (U1 ⟨d,.load t x,ty,pos,af,gd⟩ e b v) b b'->k' v f->bZ D τ ⟨d,.load t x,ty,pos,af,gd⟩ e' b' k':=by
 unfold bZ at hk;simp only at hk;split at hk
 case h_1 =>
  rename_i ti i off ht hx;have hi:∀v,i∈U1 ⟨d,.load t x,ty,pos,af,gd⟩ e b v:=λv=>Zj (by simp[tZ,Op.operands,kD,hx,dY])
  split at hk
  .rename_i cs hb;cases hr:jd ti (dU off cs)with
   |none=>simp[hr]at hk
   |some v =>
    simp only[hr]at hk;refine⟨_,_,hk,λe' b' k' hA hB h=>?_⟩;have hb':=hB i (hi _);unfold bZ;simp only[ht,hA,hx,hb',hb,hr];exact h
  .rename_i cs hb;cases hr:jd ti (dU off cs)with
   |none=>simp[hr]at hk
   |some v =>
    simp only[hr]at hk;refine⟨_,_,hk,λe' b' k' hA hB h=>?_⟩;have hb':=hB i (hi _);unfold bZ;simp only[ht,hA,hx,hb',hb,hr];exact h
  .rename_i cs hb;obtain⟨v,f,h1,h2⟩:=Nb hk;refine⟨_,_,h1,λe' b' k' hA hB h=>?_⟩;have hb':=hB i (hi _);unfold bZ;simp only[ht,hA,hx,hb',hb];refine h2 b' k' (λhv j hj=>hB j (afA hv ?_)) h;simp only[tY,passes,cond_false,kV];exact qP _ (List.mem_flatMap.2 ⟨i,by simp[tZ,Op.operands,kD,hx,dY],by simp only[YF,hb];exact zu j hj⟩)
  .cases hk
 case h_2 =>
  rename_i ti cs ht hx;cases hr:jd ti cs with
  |none=>simp[hr]at hk
  |some v =>
   simp only[hr]at hk;refine⟨_,_,hk,λe' b' k' hA hB h=>?_⟩;unfold bZ;simp only[ht,hA,hx,hr];exact h
 case h_3 =>
  rename_i ti cs ht hx;cases hr:jd ti cs with
  |none=>simp[hr]at hk
  |some v =>
   simp only[hr]at hk;refine⟨_,_,hk,λe' b' k' hA hB h=>?_⟩;unfold bZ;simp only[ht,hA,hx,hr];exact h
 case h_4 =>
  rename_i ti g off ht hx;split at hk
  .rename_i kk cs hg;cases hr:jd ti (dU off cs)with
   |none=>simp[hr]at hk
   |some v =>
    simp only[hr]at hk;refine⟨_,_,hk,λe' b' k' hA hB h=>?_⟩;unfold bZ;simp only[ht,hA,hx,hg,hr];exact h
  .cases hk
 case h_5 =>
  rename_i ti i n j off ht hx;have hi:∀v,i∈U1 ⟨d,.load t x,ty,pos,af,gd⟩ e b v:=λv=>Zj (by simp[tZ,Op.operands,kD,hx,dY])
  split at hk
  .rename_i T s es hb;obtain⟨v,h1,h2⟩:=xQ (b:=b) hk;refine⟨_,_,h1,λe' b' k' hA hB h=>?_⟩;have hb':=hB i (hi _);unfold bZ;simp only[ht,hA,hx,hb',hb];exact h2 k' h
  .rename_i s es hb;obtain⟨v,h1,h2⟩:=xQ (b:=b) hk;refine⟨_,_,h1,λe' b' k' hA hB h=>?_⟩;have hb':=hB i (hi _);unfold bZ;simp only[ht,hA,hx,hb',hb];exact h2 k' h
  .cases hk
 case h_6=>cases hk
theorem ab4{o:Oper}(hτ:dQ P τ=true)(hk:bZ (Den P) τ o e b k):∃v f,k v f/\∀{N:Nat} {w0:World} {X0:List Nat} {S:List Bx} {M:MM} {a:Act} {w:World} (e':Env) (b':aZ),WOk P w0->Sta N w0 X0 S M a w e' b'->(∀x∈o.op.operands.toList,ae e' x=ae e x)->xG (U1 o e b v) b b'->Good P w0 X0 S M a w o (λv' f'=>v'=v/\f'=f):=by
 obtain⟨d,op,ty,pos,af,gd⟩:=o
 have old:(∀v,U1 ⟨d,op,ty,pos,af,gd⟩ e b v=tY ⟨d,op,ty,pos,af,gd⟩ e b)->∃v f,k v f/\∀{N:Nat} {w0:World} {X0:List Nat} {S:List Bx} {M:MM} {a:Act} {w:World} (e':Env) (b':aZ),WOk P w0->Sta N w0 X0 S M a w e' b'->(∀x∈op.operands.toList,ae e' x=ae e x)->xG (U1 ⟨d,op,ty,pos,af,gd⟩ e b v) b b'->Good P w0 X0 S M a w ⟨d,op,ty,pos,af,gd⟩ (λv' f'=>v'=v/\f'=f):=by
  intro hrd;obtain⟨v,f,h1,h2⟩:=JH hk;refine⟨v,f,h1,fun {N w0 X0 S M a w} e' b' hwo h hA hB=>?_⟩
  haveI:WOk P w0:=hwo
  exact CX hτ h (h2 e' b' (λv' f'=>v'=v/\f'=f) ⟨hA,by rw[hrd]at hB;exact hB⟩ ⟨rfl,rfl⟩)
 cases op with
 |load t x =>
  obtain⟨v,f,h1,h2⟩:=UE hk;refine⟨v,f,h1,fun {N w0 X0 S M a w} e' b' hwo h hA hB=>?_⟩
  haveI:WOk P w0:=hwo
  exact CX hτ h (h2 e' b' (λv' f'=>v'=v/\f'=f) (hA x υ) hB ⟨rfl,rfl⟩)
 |call c =>
  obtain⟨callee,xs,ts⟩:=c
  by_cases hlen:callee=.builtin .len
  .subst hlen;obtain⟨vs,hv,hc⟩:=XB hk;have hta:∀{l:List TypeId},ts.toList=l->ts=l.toArray:=λh=>Jv (by simpa using h)
   have hops:∀{e':Env},(∀x∈(Op.call ⟨.builtin .len,xs,ts⟩).operands.toList,ae e' x=ae e x)->je (λx=>ae e' x) xs.toList=some vs:=by
    intro e' hA;rw[<-hv];exact sG λx hx=>hA x (by simp only[Op.operands,Call.operands];simp only[Array.toList_append];exact qP _ hx)
   cases hc with
   |lens s es t e1 s' b1 z h1 h2 h3 h4 hk1 =>
    subst h2;rw[hta h3]at hops ⊢;exact⟨_,_,hk1,λe' b' hwo h hA hB=>rJ (bU hτ h4) h (hops hA) (λu hu=>by obtain⟨A,cap,uss,ha,_⟩:=RepS.of_sl hu.sl_;exact⟨A,cap,ha⟩) ⟨rfl,rfl⟩⟩
   |lenstr s t h1 h2 h3 h4 hk1 =>
    subst h2;rw[hta h3]at hops ⊢;refine⟨_,_,hk1,λe' b' hwo h hA hB=>?_⟩;obtain⟨us,hu,hl,hr⟩:=rX h (hops hA)
    obtain⟨u,rfl⟩:∃u,us=[u]:=by
     match us,hl with
     |[u],_=>exact⟨u,rfl⟩
    have hue:=(hr 0 u _ rfl rfl).v_;subst hue;refine .val h.ms ⟨rfl,rfl⟩ (u:=.int .i64 s.size) ?_ (.d (.c (.v _ rfl)));simp[execOp,resolve,invoke,builtin,hu,Builtin.len_,run_underlying (SX (bU hτ h4)),goInt]
   |leng i n x s es t e1 s' b1 z h1 h2 h3 h4 h5 h6 h7 hk1 =>
    subst h2;rw[hta h3]at hops ⊢;exact⟨_,_,hk1,λe' b' hwo h hA hB=>rJ (bU hτ h6) h (hops hA) (λu hu=>by obtain⟨A,c,hq⟩:=hu.gs_len;exact⟨A,c,by rw[hq,h7]⟩) ⟨rfl,rfl⟩⟩
   |lenn t e1 s' b1 z h1 h2 h3 h4 hk1 =>
    subst h2;rw[hta h3]at hops ⊢;exact⟨_,_,hk1,λe' b' hwo h hA hB=>rJ (bU hτ h4) h (hops hA) (λu hu=>⟨none,0,hu.v_⟩) ⟨rfl,rfl⟩⟩
   |app0n t T s by_ z i h1=>cases h1
   |appn s es t T by_ z i n h1=>cases h1
   |fn f cap x h1=>cases h1
   |fnw f cap x i r h1=>cases h1
   |fns f cap x i n r h1=>cases h1
   |fnn f cap x r h1=>cases h1
   |app0 s es' t T by_ z i h1=>cases h1
   |app s es es' t T by_ z i n h1=>cases h1
   |app0g s c m es' f t T by_ z i h1=>cases h1
   |appg s c m es es' f t T by_ z i n h1=>cases h1
   |min ki n0 n1 ns r h1=>cases h1
   |max ki n0 n1 ns r h1=>cases h1
  .refine old λv=>?_
   unfold U1;split
   .rename_i heq;cases heq
   .rename_i heq;simp only[Op.call.injEq,Call.mk.injEq]at heq;exact absurd heq.1 hlen
   .rfl
 |_=>exact old λv=>rfl
end
section
variable {P:Program} [Wld P] [Kp] [Gr] {τ:Tab} {N:Nat} {w0:World} {X0:List Nat} {S:List Bx} {M:MM} {a:Act} {w:World} {e:Env} {b:aZ}
variable [WOk P w0]
theorem SN{t s:Nat}{x:Value}(h:zn t=true)(hs:(s,x)∈Kp.l):t≠s:=by
 have:=oH.1 h _ hs;rintro rfl;simp at this
theorem BN{a:Act}{t:Nat}{u:Value}(h:a.defers=[]/\∀t u,(t,u)∈Kp.l->a.tmps.getD t undef=u)(ht:DL N t):(a.put (some t) u).defers=[]/\∀s x,(s,x)∈Kp.l->(a.put (some t) u).tmps.getD s undef=x :=
 ⟨h.1,λs x hs=>by rw[iH u (SN ht.2 hs)];exact h.2 s x hs⟩
theorem Sta.congr(h:Sta N w0 X0 S M a w e b){e':Env}{b':aZ}(he:∀t,ld t e'=ld t e)(hb:∀i,ld i b'=ld i b):Sta N w0 X0 S M a w e' b' :=
 ⟨h.ms,h.x0,h.sz,h.df,λt v hv=>h.env t v (by rw[<-he];exact hv),λi x hx=>h.box i x (by rw[<-hb];exact hx)⟩
theorem Conc.congr(h:Conc N w0 X0 e b a w){e':Env}{b':aZ}(he:∀t,ld t e'=ld t e)(hb:∀i,ld i b'=ld i b):Conc N w0 X0 e' b' a w:=by
 obtain⟨S,M,h⟩:=h;exact⟨S,M,h.congr he hb⟩
theorem dn{α:Type}(t:Nat)(v:α)(e:List (Nat×α)):ld t ((t,v)::e)=some v:=by simp[ld]
theorem dD{α:Type}{t s:Nat}(v:α)(e:List (Nat×α))(h:s≠t):ld t ((s,v)::e)=ld t e:=by simp[ld,gI h]
theorem Jb(ids:List Nat):∀(e:Env) (t:Nat),ld t (kill ids e)=(ld t e).map λx=>cond ((dY x).any λb=>ids.elem b) .any x
 |[],t=>rfl
 |(s,v)::r,t=>by
  have ih:=Jb ids r t;unfold kill at ih ⊢;simp only[xZ]
  by_cases hs:s=t
  .subst hs;rw[dn];simp only[vI];cases hc:(dY v).any λb=>ids.elem b<;>exact dn _ _ _
  .have e1:ld t ((cond ((dY v).any λb=>ids.elem b) (s,AV.any) (s,v))::List.map (λp=>cond ((dY p.2).any λb=>ids.elem b) (p.1,AV.any) p) r)=ld t (List.map (λp=>cond ((dY p.2).any λb=>ids.elem b) (p.1,AV.any) p) r):=by
    cases hc:(dY v).any λb=>ids.elem b<;>exact dD _ _ hs
   rw[e1,ih,dD _ _ hs]
theorem Sta.kill(h:Sta N w0 X0 S M a w e b)(ids:List Nat):Sta N w0 X0 S M a w (kill ids e) b:=by
 refine⟨h.ms,h.x0,h.sz,h.df,λt v hv=>?_,h.box⟩;rw[Jb]at hv;cases hx:ld t e with
 |none=>simp[hx]at hv
 |some x =>
  simp only[hx,vI,qH]at hv;cases hc:(dY x).any λb=>ids.elem b with
  |true=>rw[hc]at hv;subst hv;exact .any
  |false=>rw[hc]at hv;subst hv;exact h.env t _ hx
theorem QO{ids:List Nat}{t:Nat}{x:AV}(h:ld t (kill ids e)=some x):∀i∈dY x,i ∉ ids:=by
 intro i hi hm;rw[Jb]at h;cases hx:ld t e with
 |none=>simp[hx]at h
 |some y =>
  simp only[hx,vI,qH]at h;cases hc:(dY y).any λb=>ids.elem b with
  |true=>rw[hc]at h;subst h;simp[dY]at hi
  |false =>
   rw[hc]at h;subst h;have:=JX.1 hc i hi;simp[hm]at this
theorem oP{ids:List Nat}(hm:mention ids e=false){t:Nat}{x:AV}(h:ld t e=some x):∀i∈dY x,i ∉ ids:=by
 intro i hi hmi;have h1:=JX.1 hm _ (Nl h);simp only[List.any_eq_true,not_exists,not_and]at h1;exact h1 i hi (by simpa using hmi)
theorem Post.conc(h:Sta N w0 X0 S M a w e b){o:Oper}{v:AV}{f:aZ}{u:Value}{w':World}(hp:Post w0 X0 S M w (qN o) v f u w')(hd:∀t,o.dst=some t->DL N t)(hno:∀t x,o.dst≠some t->ld t e=some x->∀i∈dY x,i ∉ qN o)(hnb:∀i x,ld i b=some x->∀c∈tX x,c ∉ qN o):
 Conc N w0 X0 (xH o v e) (ups f b) (a.put o.dst u) w':=by
 obtain⟨S',M',h1,h2,h3,h4,h5,h6⟩:=hp;refine⟨S',M',h1,h.x0, ?_, ?_,λt x hx=>?_,λi x hx=>?_⟩
 .cases hq:o.dst with
  |none=>exact h.sz
  |some t=>simp[Act.put,h.sz]
 .cases hq:o.dst with
  |none=>exact⟨h.df.1,h.df.2.ext h2⟩
  |some t=>exact⟨BN h.df.1 (hd _ hq),h.df.2.ext h2⟩
 .have old:o.dst≠some t->ld t e=some x->RepV w' (bl S'++X0) M' (a.tmps.getD t undef) x:=λhne hx=>(h.env t x hx).ext h2 λi hi m hm=>h5 i m hm (hno t x hne hx i hi)
  cases hq:o.dst with
  |none =>
   unfold xH at hx;rw[hq]at hx;exact old (by rw[hq];simp) hx
  |some s =>
   unfold xH at hx;rw[hq]at hx
   by_cases hs:s=t
   .subst hs;rw[dn]at hx;cases hx;rw[jG u h.sz (hd _ hq).1];exact h3
   .rw[dD _ _ hs]at hx;rw[iH u hs];exact old (by rw[hq];simpa using hs) hx
 .rcases zk f b i x hx with hh|⟨hh,hx'⟩
  .exact h6 i x hh
  .obtain⟨m,k1,k2⟩:=h.box i x hx';exact⟨m,(h4 i hh).trans k1,k2.ext h2 λc hc mc hmc=>h5 c mc hmc (hnb i x hx' c hc)⟩
theorem nS{ids:List Nat}:∀{b:aZ},jE ids b=false->∀i x,ld i b=some x->∀c∈tX x,c ∉ ids
 |[],_,i,x,hx,_,_=>by simp[ld]at hx
 |(s,y)::r,hm,i,x,hx,c,hc=>by
  have h1:jE ids r=false/\∀c∈tX y,c ∉ ids:=by
   cases y<;>simp only[jE,Bool.or_eq_false_iff]at hm<;>first|exact⟨hm,λc hc=>by simp[tX]at hc⟩|skip
   refine⟨hm.2,λc hc hmc=>?_⟩;have:=JX.1 hm.1 c hc;simp[hmc]at this
  by_cases hs:s=i
  .subst hs;rw[dn]at hx;cases hx;exact h1.2 c hc
  .rw[dD _ _ hs]at hx;exact nS h1.1 i x hx c hc
theorem Oo{ids:List Nat}{b:aZ}{p:Prop}(h:NB ids b p):p/\∀i x,ld i b=some x->∀c∈tX x,c ∉ ids:=by
 unfold NB at h;split at h
 .exact⟨h,λi x hx c hc=>by simp⟩
 .split at h
  .rename_i hm;exact⟨h,nS hm⟩
  .cases h
theorem FT(o:Oper):qN o=[]\/∃t j r,o.dst=some t/\qN o=j::r:=by
 unfold qN;cases DF o.op with
 |false=>exact .inl rfl
 |true =>
  cases o.dst with
  |none=>exact .inl rfl
  |some t =>
   cases wQ o.op with
   |true=>exact .inr ⟨t,_,_,rfl,rfl⟩
   |false=>exact .inr ⟨t,_,_,rfl,rfl⟩
theorem Post.concP(h:Sta N w0 X0 S M a w e b){o:Oper}{v:AV}{f:aZ}{u:Value}{w':World}(hp:Post w0 X0 S M w (qN o) v f u w')(hd:∀t,o.dst=some t->DL N t)(hnb:∀i x,ld i b=some x->∀c∈tX x,c ∉ qN o):
 Conc N w0 X0 (yF o v e) (ups f b) (a.put o.dst u) w':=by
 rcases FT o with ha|⟨t,j,r,ht,ha⟩
 .have:=hp.conc h hd (λt x _ _ i _=>by rw[ha];simp) hnb;refine this.congr (λs=>?_) (λ_=>rfl);unfold yF xH;cases hq:o.dst with
  |none=>rfl
  |some t=>simp only[ha]
 .unfold yF;simp only[ht,ha];cases hm:mention (j::r) e with
  |true =>
   have:=hp.conc (h.kill (j::r)) hd (λs x _ hx i hi=>by rw[ha];exact QO hx i hi) hnb;unfold xH at this;simpa only[ht]using this
  |false =>
   have:=hp.conc h hd (λs x _ hx i hi=>by rw[ha];exact oP hm hx i hi) hnb;unfold xH at this;simpa only[ht]using this
def acO(P:Program)(O:List Oper)(o:Oper)(a:Act)(w:World)(K:Act->World->Prop)(Q:Exit->Act->World->Prop):Prop :=
 (Region.wanted o (yielded O.toArray a.tmps)=true->o.wp P a w K Q)/\(Region.wanted o (yielded O.toArray a.tmps)=false->K (a.put o.dst undef) w)
theorem DY{O:List Oper}{j t:Nat}{p:Bool}(ho:o9 O j=some t)(ht:a.tmps.getD t undef=.bool p):yielded O.toArray a.tmps j=some p:=by
 unfold o9 at ho;unfold yielded;cases hq:O[j]? with
 |none=>simp[hq]at ho
 |some o =>
  simp only[hq]at ho;simp only[TM,hq,Zz,ho];cases hx:a.tmps[t]? with
  |none=>simp[U5,hx,undef]at ht
  |some u=>simp[U5,hx]at ht;simp[ht]
theorem DN{O:List Oper}{j t:Nat}(ho:o9 O j=some t)(ht:a.tmps.getD t undef=undef):yielded O.toArray a.tmps j=none:=by
 unfold o9 at ho;unfold yielded;cases hq:O[j]? with
 |none=>simp[hq]
 |some o =>
  simp only[hq]at ho;simp only[TM,hq,Zz,ho];cases hx:a.tmps[t]? with
  |none=>simp
  |some u=>simp[U5,hx]at ht;simp[ht,undef]
theorem Sta.skip(h:Sta N w0 X0 S M a w e b){o:Oper}(hd:∀t,o.dst=some t->DL N t):Sta N w0 X0 S M (a.put o.dst undef) w (xH o .bad e) b:=by
 refine⟨h.ms,h.x0, ?_, ?_,λt x hx=>?_,h.box⟩
 .cases hq:o.dst with
  |none=>exact h.sz
  |some t=>simp[Act.put,h.sz]
 .cases hq:o.dst with
  |none=>exact h.df
  |some t=>exact⟨BN h.df.1 (hd _ hq),h.df.2⟩
 .cases hq:o.dst with
  |none=>unfold xH at hx;rw[hq]at hx;exact h.env t x hx
  |some s =>
   unfold xH at hx;rw[hq]at hx
   by_cases hs:s=t
   .subst hs;rw[dn]at hx;cases hx;rw[jG undef h.sz (hd _ hq).1];exact .bad rfl
   .rw[dD _ _ hs]at hx;rw[iH undef hs];exact h.env t x hx
theorem Sta.skipP(h:Sta N w0 X0 S M a w e b){o:Oper}(hd:∀t,o.dst=some t->DL N t):Conc N w0 X0 (yF o .bad e) b (a.put o.dst undef) w:=by
 rcases FT o with ha|⟨t,j,r,ht,ha⟩
 .have:=h.skip hd;refine⟨S,M,this.congr (λs=>?_) (λ_=>rfl)⟩;unfold yF xH;cases hq:o.dst with
  |none=>rfl
  |some t=>simp only[ha]
 .unfold yF;simp only[ht,ha];cases hm:mention (j::r) e with
  |true =>
   have:=(h.kill (j::r)).skip hd;unfold xH at this;simp only[ht]at this;exact⟨S,M,this⟩
  |false =>
   have:=h.skip hd;unfold xH at this;simp only[ht]at this;exact⟨S,M,this⟩
theorem G7{t:Nat}{x:AV}(h:ld t e=some x):∀s,ld s ((t,x)::e)=ld s e:=λs=>by
 by_cases hs:t=s
 .subst hs;rw[dn,h]
 .rw[dD _ _ hs]
theorem BO{O:List Oper}{o:Oper}{k:Env->aZ->Prop}(hτ:dQ P τ=true)(hc:Conc N w0 X0 e b a w)(hd:∀t,o.dst=some t->DL N t)(hk:Eb (Den P) τ O o e b λe v f _=>k (yF o v e) (ups f b))
 {K:Act->World->Prop} {Q:Exit->Act->World->Prop} (hK:∀e b a w,k e b->Conc N w0 X0 e b a w->K a w):acO P O o a w K Q:=by
 obtain⟨S,M,h⟩:=hc
 have run:∀e,Sta N w0 X0 S M a w e b->NB (qN o) b (bZ (Den P) τ o e b λv f=>k (yF o v e) (ups f b))->o.wp P a w K Q:=by
  intro e h hk;obtain⟨hk,hnb⟩:=Oo hk;obtain⟨v,f,h1,h2⟩:=CX hτ h hk;exact h2.wp λu w' hp=>hK _ _ _ _ h1 (hp.concP h hd hnb)
 have skip:∀e,Sta N w0 X0 S M a w e b->k (yF o .bad e) b->K (a.put o.dst undef) w:=by
  intro e h hk;exact hK _ _ _ _ hk (h.skipP hd)
 unfold Eb at hk;cases hg:o.guard with
 |none =>
  simp only[hg]at hk;exact⟨λ_=>run e h hk,λhw=>by simp[Region.wanted,hg]at hw⟩
 |some jw =>
  obtain⟨j,want⟩:=jw;simp only[hg]at hk;cases hs:o9 O j with
  |none=>simp[hs]at hk
  |some t =>
   simp only[hs]at hk;split at hk
   .rename_i p hp;have hy:=DY (a:=a) hs ((h.env t _ hp).v_)
    have hbr:(match p == want with
     |true=>NB (qN o) b (bZ (Den P) τ o ((t,.bool p)::e) b λv f=>k (yF o v ((t,.bool p)::e)) (ups f b))
     |false=>k (yF o .bad ((t,.bool p)::e)) (ups [] b)):=by
     cases p
     .exact hk.f rfl
     .exact hk.t rfl
    have h':=h.congr (G7 hp) (λ_=>rfl);cases hpw:p == want with
    |true =>
     simp only[hpw]at hbr;refine⟨λ_=>run _ h' hbr,λhw=>?_⟩;simp only[Region.wanted,hg,hy]at hw;have:=eq_of_beq hpw;subst this;simp at hw
    |false =>
     simp only[hpw]at hbr;refine⟨λhw=>?_,λ_=>skip _ h' hbr⟩;simp only[Region.wanted,hg,hy]at hw;have:p=want:=by simpa using hw
     subst this;simp at hpw
   .rename_i hp
    have hu:a.tmps.getD t undef=undef:=by
     have:=h.env t _ hp;generalize hz:a.tmps.getD t undef=z at this;cases this with
     |d hd=>cases hd
     |bad hb=>exact hb
    have hy:=DN (a:=a) hs hu;refine⟨λhw=>?_,λ_=>skip _ h hk⟩;simp[Region.wanted,hg,hy]at hw
   .cases hk
theorem HY{O:List Oper}{Q:Exit->Act->World->Prop}{k:Env->aZ->Prop}(hτ:dQ P τ=true)(hQ:∀e b a w,k e b->Conc N w0 X0 e b a w->Q .normal a w):∀{l:List Oper} {e:Env} {b:aZ} {a:Act} {w:World},pU N l=true->wo (Den P) τ O l e b k->Conc N w0 X0 e b a w->wpList P O.toArray Q l a w
 |[],e,b,a,w,_,hk,hc=>hQ e b a w hk hc
 |o::r,e,b,a,w,hd,hk,hc=>by
  simp only[pU,List.all_cons,gX]at hd;simp only[wo,yA,oI]at hk
  have hdo:∀t,o.dst=some t->DL N t:=by
   intro t ht;have:=hd.1;rw[ht]at this;simpa[DL,I7]using this
  have:=BO (k:=λe b=>wo (Den P) τ O r e b k) (K:=wpList P O.toArray Q r) (Q:=Q) hτ hc hdo hk (λe b a w hk hc=>HY hτ hQ (l:=r) hd.2 hk hc);unfold wpList;cases hw:Region.wanted o (yielded O.toArray a.tmps)with
  |true=>simp only[if_true];exact .inl (this.1 hw)
  |false=>simp only[eF,if_false];exact this.2 hw
end
section
variable {P:Program} [Wld P] [Kp] [Gr] {τ:Tab}
structure AnyOk (P:Program) [Wld P] (O:List Oper) (o:Oper) (e:Env) (b:aZ) (v:AV) (f:aZ) (lg:Lg):Prop where
 wr:lg.wr=f.map (·.1)
 al:∀i∈lg.al,i∈qN o
 ids:∀i∈dY v,i∈lg.mn\/i∈lg.al
 obs:∀i x,(i,x)∈f->∀c∈tX x,c∈lg.mn
 go:∀(N:Nat) (w0:World) (X0:List Nat) (a:Act) (w:World) (e':Env) (b':aZ),WOk P w0->Conc N w0 X0 e' b' a w->(∀t∈oC O o,ld t e'=ld t e)->xG lg.rd b b'->(∀t,o.dst=some t->DL N t) ->
  (∀t x,ld t e'=some x->∀i∈dY x,i ∉ lg.al)->(∀i x,ld i b'=some x->∀c∈tX x,c ∉ lg.al)->∀(K:Act->World->Prop) (Q:Exit->Act->World->Prop),(∀a' w',Conc N w0 X0 (xH o v e') (ups f b') a' w'->K a' w')->acO P O o a w K Q
theorem abq{O:List Oper}{o:Oper}{t:Nat}(h:Operand.tmp t∈o.op.operands.toList):t∈oC O o:=by
 unfold oC;exact yQ _ (List.mem_flatMap.2 ⟨_,h,η⟩)
theorem PL{O:List Oper}{o:Oper}{j t:Nat}{want:Bool}(h:o.guard=some (j,want))(hs:o9 O j=some t):t∈oC O o:=by
 unfold oC;exact qP _ (by simp[h,hs])
theorem LQ:∀{f:aZ} {i:Nat} {x:Bk},(i,x)∈f->∀c∈tX x,c∈Tm f
 |[],_,_,h,_,_=>by cases h
 |(j,y)::r,i,x,h,c,hc=>by
  rcases jA.1 h with h|h
  .cases h;cases y<;>simp only[tX]at hc<;>first|(cases hc;done)|skip
   simp only[Tm];exact yQ _ hc
  .have:=LQ h c hc;cases y<;>simp only[Tm]<;>first|exact this|exact qP _ this
theorem VE{O:List Oper}{o:Oper}{e:Env}{b:aZ}{k:Env->AV->aZ->Lg->Prop}(hτ:dQ P τ=true)(hk:Eb (Den P) τ O o e b k):∃e₀ v f lg,k e₀ v f lg/\(∀t,ld t e₀=ld t e)/\AnyOk P O o e b v f lg:=by
 have run:∀e₀,(∀t,ld t e₀=ld t e)->NB (qN o) b (bZ (Den P) τ o e₀ b λv f=>k e₀ v f (IX o e₀ b v f))->(∀(N:Nat) (w0:World) (X0:List Nat) (a:Act) (w:World) (e':Env) (b':aZ),Conc N w0 X0 e' b' a w->(∀t∈oC O o,ld t e'=ld t e)->Region.wanted o (yielded O.toArray a.tmps)=true) ->
  ∃e₀ v f lg,k e₀ v f lg/\(∀t,ld t e₀=ld t e)/\AnyOk P O o e b v f lg:=by
  intro e₀ he hk hw;obtain⟨hk,_⟩:=Oo hk;obtain⟨v,f,h1,h2⟩:=ab4 hτ hk;refine⟨e₀,v,f,_,h1,he,rfl,λi hi=>hi,λi hi=>?_,λi x hx c hc=>qP _ (LQ hx c hc), ?_⟩
  .simp only[IX]
   by_cases hm:i∈qN o
   .exact .inr hm
   .exact .inl (yQ _ (qP _ (yS.2 ⟨hi,by simpa using hm⟩)))
  .intro N w0 X0 a w e' b' hwo hc hs hB hd hno hnb K Q hK
   haveI:WOk P w0:=hwo
   have hwt:=hw N w0 X0 a w e' b' hc hs;refine⟨λ_=>?_,λh=>(by rw[hwt]at h;cases h)⟩;obtain⟨S,M,h⟩:=hc
   have hA:∀x∈o.op.operands.toList,ae e' x=ae e₀ x:=by
    intro x hx;cases x with
    |tmp t=>simp only[ae];rw[hs t (abq hx),he]
    |const v=>rfl
    |global g=>rfl
    |func f=>rfl
   obtain⟨v',f',⟨rfl,rfl⟩,hD⟩:=h2 e' b' hwo h hA hB;exact hD.wp λu w' hp=>hK _ _ (hp.conc h hd (λt x _ hx=>hno t x hx) hnb)
 have skip:∀e₀,(∀t,ld t e₀=ld t e)->k e₀ .bad [] ⟨[],[],[],[]⟩->(∀(N:Nat) (w0:World) (X0:List Nat) (a:Act) (w:World) (e':Env) (b':aZ),Conc N w0 X0 e' b' a w->(∀t∈oC O o,ld t e'=ld t e)->Region.wanted o (yielded O.toArray a.tmps)=false) ->
  ∃e₀ v f lg,k e₀ v f lg/\(∀t,ld t e₀=ld t e)/\AnyOk P O o e b v f lg:=by
  intro e₀ he hk hw;refine⟨e₀,_,_,_,hk,he,rfl,λi hi=>(by simp at hi),λi hi=>(by simp[dY]at hi),λi x hx=>(by cases hx), ?_⟩;intro N w0 X0 a w e' b' hwo hc hs hB hd hno hnb K Q hK;have hwt:=hw N w0 X0 a w e' b' hc hs;refine⟨λh=>(by rw[hwt]at h;cases h),λ_=>?_⟩;obtain⟨S,M,h⟩:=hc;have hp:Post w0 X0 S M w [] .bad [] undef w:=Post.pure h.ms (.bad rfl);refine hK _ _ ⟨S,M,h.ms,h.x0, ?_, ?_,λt x hx=>?_,h.box⟩
  .cases hq:o.dst with
   |none=>exact h.sz
   |some t=>simp[Act.put,h.sz]
  .cases hq:o.dst with
   |none=>exact h.df
   |some t=>exact⟨BN h.df.1 (hd _ hq),h.df.2⟩
  .cases hq:o.dst with
   |none=>unfold xH at hx;rw[hq]at hx;exact h.env t x hx
   |some s =>
    unfold xH at hx;rw[hq]at hx
    by_cases hs:s=t
    .subst hs;rw[dn]at hx;cases hx;rw[jG undef h.sz (hd _ hq).1];exact .bad rfl
    .rw[dD _ _ hs]at hx;rw[iH undef hs];exact h.env t x hx
 unfold Eb at hk;cases hg:o.guard with
 |none =>
  simp only[hg]at hk;exact run e (λ_=>rfl) hk (λ_ _ _ _ _ _ _ _ _=>by simp[Region.wanted,hg])
 |some jw =>
  obtain⟨j,want⟩:=jw;simp only[hg]at hk;cases hs:o9 O j with
  |none=>simp[hs]at hk
  |some t =>
   simp only[hs]at hk;split at hk
   .rename_i p hp
    have hbr:(match p == want with
     |true=>NB (qN o) b (bZ (Den P) τ o ((t,.bool p)::e) b λv f=>k ((t,.bool p)::e) v f (IX o ((t,.bool p)::e) b v f))
     |false=>k ((t,.bool p)::e) .bad [] ⟨[],[],[],[]⟩):=by
     cases p
     .exact hk.f rfl
     .exact hk.t rfl
    have hy:∀(N:Nat) (w0:World) (X0:List Nat) (a:Act) (w:World) (e':Env) (b':aZ),Conc N w0 X0 e' b' a w->(∀t∈oC O o,ld t e'=ld t e)->yielded O.toArray a.tmps j=some p:=by
     intro N w0 X0 a w e' b' hc hsl;obtain⟨S,M,h⟩:=hc;exact DY hs ((h.env t _ ((hsl t (PL hg hs)).trans hp)).v_)
    cases hpw:p == want with
    |true =>
     simp only[hpw]at hbr;refine run _ (G7 hp) hbr (λN w0 X0 a w e' b' hc hsl=>?_);simp only[Region.wanted,hg,hy N w0 X0 a w e' b' hc hsl];have:=eq_of_beq hpw;subst this;simp
    |false =>
     simp only[hpw]at hbr;refine skip _ (G7 hp) hbr (λN w0 X0 a w e' b' hc hsl=>?_);simp only[Region.wanted,hg,hy N w0 X0 a w e' b' hc hsl];cases p<;>cases want<;>first|rfl|cases hpw
   .rename_i hp;refine skip e (λ_=>rfl) hk (λN w0 X0 a w e' b' hc hsl=>?_);obtain⟨S,M,h⟩:=hc
    have hu:a.tmps.getD t undef=undef:=by
     have:=h.env t _ ((hsl t (PL hg hs)).trans hp);generalize hz:a.tmps.getD t undef=z at this;cases this with
     |d hd=>cases hd
     |bad hb=>exact hb
    simp[Region.wanted,hg,DN (a:=a) hs hu]
   .cases hk
structure TrE where
 o:Oper
 v:AV
 f:aZ
 lg:Lg
def FF:List TrE->(Nat->Bool)->Env->Env
 |[],_,e=>e
 |x::r,ls,e=>FF r (λj=>ls (j+1)) (if ls 0 then xH x.o x.v e else e)
def GG:List TrE->(Nat->Bool)->aZ->aZ
 |[],_,b=>b
 |x::r,ls,b=>GG r (λj=>ls (j+1)) (if ls 0 then ups x.f b else b)
theorem qR{o:Oper}{v:AV}{e:Env}{t:Nat}(h:o.dst≠some t):ld t (xH o v e)=ld t e:=by
 unfold xH;cases hq:o.dst with
 |none=>rfl
 |some s=>exact dD _ _ (λhs=>h (by rw[hq,hs]))
theorem qW{o:Oper}{v:AV}{e:Env}{t:Nat}(h:o.dst=some t):ld t (xH o v e)=some v:=by
 unfold xH;simp only[h];exact dn _ _ _
theorem xO{o:Oper}{v:AV}{e e':Env}{t:Nat}(h:ld t e=ld t e'):ld t (xH o v e)=ld t (xH o v e'):=by
 by_cases hd:o.dst=some t
 .rw[qW hd,qW hd]
 .rw[qR hd,qR hd,h]
theorem qQ{α:Type}:∀{f:List (Nat×α)} {b:List (Nat×α)} {i:Nat},i ∉ f.map (·.1)->ld i (ups f b)=ld i b
 |[],b,i,_=>rfl
 |(t,x)::r,b,i,h=>by
  simp only[xZ,jA,not_or]at h;simp only[ups];rw[qQ h.2,qY,if_neg h.1]
theorem y5{α:Type}:∀{f:List (Nat×α)} {b b':List (Nat×α)} {i:Nat},i∈f.map (·.1)->ld i (ups f b)=ld i (ups f b')
 |[],b,b',i,h=>by simp at h
 |(t,x)::r,b,b',i,h=>by
  simp only[ups]
  by_cases hr:i∈r.map (·.1)
  .exact y5 hr
  .have:i=t:=by simp only[xZ,jA]at h;rcases h with h|h;exact h;exact absurd h hr
   subst this;rw[qQ hr,qQ hr,qY,qY,if_pos rfl,if_pos rfl]
theorem sQ{t:Nat}:∀{tr:List TrE} {ls ls':Nat->Bool} {e e':Env},(∀(j:Nat) x,tr[j]?=some x->x.o.dst=some t->ls j=ls' j)->ld t e=ld t e'->ld t (FF tr ls e)=ld t (FF tr ls' e')
 |[],_,_,_,_,_,h=>h
 |x::r,ls,ls',e,e',hl,h=>by
  simp only[FF];refine sQ (tr:=r) (λj y hy hd=>hl (j+1) y (by simpa using hy) hd) ?_
  by_cases hd:x.o.dst=some t
  .rw[hl 0 x rfl hd];split
   .exact xO h
   .exact h
  .have h1:∀(c:Bool) (e:Env),ld t (if c then xH x.o x.v e else e)=ld t e:=by
    intro c e;split
    .exact qR hd
    .rfl
   rw[h1,h1,h]
theorem yM{i:Nat}:∀{tr:List TrE} {ls ls':Nat->Bool} {b b':aZ},(∀(j:Nat) x,tr[j]?=some x->i∈x.f.map (·.1)->ls j=ls' j)->ld i b=ld i b'->ld i (GG tr ls b)=ld i (GG tr ls' b')
 |[],_,_,_,_,_,h=>h
 |x::r,ls,ls',b,b',hl,h=>by
  simp only[GG];refine yM (tr:=r) (λj y hy hd=>hl (j+1) y (by simpa using hy) hd) ?_
  by_cases hd:i∈x.f.map (·.1)
  .rw[hl 0 x rfl hd];split
   .exact y5 hd
   .exact h
  .have h1:∀(c:Bool) (b:aZ),ld i (if c then ups x.f b else b)=ld i b:=by
    intro c b;split
    .exact qQ hd
    .rfl
   rw[h1,h1,h]
theorem Ba:∀{tr:List TrE} {e:Env},FF tr (λ_=>false) e=e
 |[],_=>rfl
 |x::r,e=>by simp only[FF,eF,if_false];exact Ba
theorem AY:∀{tr:List TrE} {b:aZ},GG tr (λ_=>false) b=b
 |[],_=>rfl
 |x::r,e=>by simp only[GG,eF,if_false];exact AY
theorem QN{t:Nat}:∀{tr:List TrE} {ls:Nat->Bool} {e:Env} {i:Nat} {x:TrE},tr[i]?=some x->x.o.dst=some t->ls i=true->(∀(j:Nat) y,i<j->tr[j]?=some y->y.o.dst=some t->ls j=false)->ld t (FF tr ls e)=some x.v
 |[],_,_,i,x,h,_,_,_=>by simp at h
 |y::r,ls,e,0,x,h,hd,hl,hn=>by
  have:y=x:=by simpa using h
  subst this;simp only[FF,hl,if_true];rw[sQ (ls':=λ_=>false) (e':=xH y.o y.v e) (λj z hz hzd=>hn (j+1) z ω (by simpa using hz) hzd) rfl,Ba,qW hd]
 |y::r,ls,e,i+1,x,h,hd,hl,hn=>by
  simp only[FF];exact QN (by simpa using h) hd hl (λj z hj hz hzd=>hn (j+1) z ω (by simpa using hz) hzd)
theorem Qv{c:Nat}{b0:aZ}:∀{tr:List TrE} {ls:Nat->Bool} {b:aZ} {i:Nat} {x:TrE},tr[i]?=some x->c∈x.f.map (·.1)->ls i=true->(∀(j:Nat) y,i<j->tr[j]?=some y->c∈y.f.map (·.1)->ls j=false)->ld c (GG tr ls b)=ld c (ups x.f b0)
 |[],_,_,i,x,h,_,_,_=>by simp at h
 |y::r,ls,b,0,x,h,hd,hl,hn=>by
  have:y=x:=by simpa using h
  subst this;simp only[GG,hl,if_true];rw[yM (ls':=λ_=>false) (b':=ups y.f b) (λj z hz hzd=>hn (j+1) z ω (by simpa using hz) hzd) rfl,AY];exact y5 hd
 |y::r,ls,b,i+1,x,h,hd,hl,hn=>by
  simp only[GG];exact Qv (by simpa using h) hd hl (λj z hj hz hzd=>hn (j+1) z ω (by simpa using hz) hzd)
theorem afk{tr:List TrE}{ls:Nat->Bool}{e:Env}{i:Nat}{x:TrE}(hi:tr[i]?=some x)(hn:∀(j:Nat) y t,i<j->tr[j]?=some y->x.o.dst=some t->y.o.dst=some t->ls j=false)(t:Nat):
 ld t (FF tr (λj=>Nat.beq j i||ls j) e)=ld t (xH x.o x.v (FF tr ls e)):=by
 by_cases hd:x.o.dst=some t
 .rw[qW hd];refine QN hi hd η (λj y hj hy hyd=>?_);rw[gI ω,hn j y t hj hy hd hyd];rfl
 .rw[qR hd];refine sQ (λj y hy hyd=>?_) rfl;have:j≠i:=by rintro rfl;rw[hi]at hy;cases hy;exact hd hyd
  rw[gI this];rfl
theorem aft{tr:List TrE}{ls:Nat->Bool}{b:aZ}{i:Nat}{x:TrE}(hi:tr[i]?=some x)(hn:∀(j:Nat) y c,i<j->tr[j]?=some y->c∈x.f.map (·.1)->c∈y.f.map (·.1)->ls j=false)(c:Nat):
 ld c (GG tr (λj=>Nat.beq j i||ls j) b)=ld c (ups x.f (GG tr ls b)):=by
 by_cases hd:c∈x.f.map (·.1)
 .refine Qv hi hd η (λj y hj hy hyd=>?_);rw[gI ω,hn j y c hj hy hd hyd];rfl
 .rw[qQ hd];refine yM (λj y hy hyd=>?_) rfl;have:j≠i:=by rintro rfl;rw[hi]at hy;cases hy;exact hd hyd
  rw[gI this];rfl
theorem Ph{t:Nat}{y:AV}:∀{tr:List TrE} {ls:Nat->Bool} {e:Env},ld t (FF tr ls e)=some y->ld t e=some y\/∃(j:Nat) (x:TrE),tr[j]?=some x/\ls j=true/\y=x.v
 |[],_,_,h => .inl h
 |x::r,ls,e,h=>by
  simp only[FF]at h;rcases Ph h with h1|⟨j,z,h1,h2,h3⟩
  .split at h1
   .rename_i hl
    by_cases hd:x.o.dst=some t
    .rw[qW hd]at h1;cases h1;exact .inr ⟨0,x,rfl,hl,rfl⟩
    .rw[qR hd]at h1;exact .inl h1
   .exact .inl h1
  .exact .inr ⟨j+1,z,by simpa using h1,h2,h3⟩
theorem VI{α:Type}{i:Nat}{y:α}:∀{f l:List (Nat×α)},ld i (ups f l)=some y->(i,y)∈f\/ld i l=some y:=fun {f l} h=>by
 rcases zk f l i y h with h1|⟨_,h1⟩
 .exact .inl h1
 .exact .inr h1
theorem PZ{i:Nat}{y:Bk}:∀{tr:List TrE} {ls:Nat->Bool} {b:aZ},ld i (GG tr ls b)=some y->ld i b=some y\/∃(j:Nat) (x:TrE),tr[j]?=some x/\ls j=true/\(i,y)∈x.f
 |[],_,_,h => .inl h
 |x::r,ls,b,h=>by
  simp only[GG]at h;rcases PZ h with h1|⟨j,z,h1,h2,h3⟩
  .split at h1
   .rename_i hl;rcases VI h1 with h2|h2
    .exact .inr ⟨0,x,rfl,hl,h2⟩
    .exact .inl h2
   .exact .inl h1
  .exact .inr ⟨j+1,z,by simpa using h1,h2,h3⟩
theorem FN{O:List Oper}(hτ:dQ P τ=true):∀{l:List Oper} {e:Env} {b:aZ} {lg0:List Lg} {k:Env->aZ->List Lg->Prop},Ez (Den P) τ O l e b lg0 k ->
 ∃(tr:List TrE) (eN:Env) (bN:aZ),tr.map (·.o)=l/\k eN bN (lg0++tr.map (·.lg))/\(∀t,ld t eN=ld t (FF tr (λ_=>true) e))/\(∀i,ld i bN=ld i (GG tr (λ_=>true) b)) /\
  ∀(i:Nat) x,tr[i]?=some x->AnyOk P O x.o (FF tr (λj=>decide (j<i)) e) (GG tr (λj=>decide (j<i)) b) x.v x.f x.lg
 |[],e,b,lg0,k,hk=>⟨[],e,b,rfl,by simp only[Ez]at hk;simpa using hk,λ_=>rfl,λ_=>rfl,λi x h=>by simp at h⟩
 |o::r,e,b,lg0,k,hk=>by
  simp only[Ez,NY,oI]at hk;obtain⟨e₀,v,f,lg,h1,he,hA⟩:=VE hτ hk;obtain⟨tr,eN,bN,q1,q2,q3,q4,q5⟩:=FN hτ h1;have hap:∀t,ld t (xH o v e₀)=ld t (xH o v e):=λt=>xO (he t)
  refine⟨⟨o,v,f,lg⟩::tr,eN,bN,by simp[q1],by simpa using q2,λt=>?_,λi=>?_,λi x hx=>?_⟩
  .rw[q3];simp only[FF,if_true];exact sQ (λ_ _ _ _=>rfl) (hap t)
  .rw[q4];simp only[GG,if_true]
  .cases i with
   |zero =>
    have:(⟨o,v,f,lg⟩:TrE)=x:=by simpa using hx
    subst this;simp only[FF,GG,Nat.not_lt_zero,decide_false,eF,if_false];rw[Ba,AY];exact hA
   |succ i =>
    have h5:=q5 i x (by simpa using hx);have e1:(λj=>decide (j+1<i+1))=λj=>decide (j<i):=by funext j;simp
    simp only[FF,GG,Nat.zero_lt_succ,decide_true,if_true,e1];refine⟨h5.wr,h5.al,h5.ids,h5.obs,λN w0 X0 a w e' b' hwo hc hs hB hd hno hnb K Q hK=>h5.go N w0 X0 a w e' b' hwo hc (λt ht=>(hs t ht).trans (sQ (λ_ _ _ _=>rfl) (hap t).symm)) hB hd hno hnb K Q hK⟩
end
def ahF(o:Oper)(acc:List Nat):Nat:=o.after.toList.foldl (λm e=>cond (Region.binds .any e) (m ||| 2^e.on ||| acc.getD e.on 0) m) 0
theorem Fv:∀(O:List Oper) (acc:List Nat),(∃rest,kZ O acc=acc++rest)/\∀(j:Nat) o,O[j]?=some o->∃acc',acc'.length=acc.length+j/\(∃rest,kZ O acc=acc'++rest)/\(kZ O acc).getD (acc.length+j) 0=ahF o acc'
 |[],acc=>⟨⟨[],by simp[kZ]⟩,λj o h=>by simp at h⟩
 |x::r,acc=>by
  obtain⟨⟨rest,h1⟩,h2⟩:=Fv r (acc++[ahF x acc]);have hx:kZ (x::r) acc=kZ r (acc++[ahF x acc]):=rfl;refine⟨⟨ahF x acc::rest,by rw[hx,h1];simp⟩,λj o hj=>?_⟩;cases j with
  |zero =>
   have:x=o:=by simpa using hj
   subst this;refine⟨acc,η,⟨ahF x acc::rest,by rw[hx,h1];simp⟩, ?_⟩;rw[hx,h1];simp[List.getD]
  |succ j =>
   obtain⟨acc',q1,q2,q3⟩:=h2 j o (by simpa using hj);refine⟨acc',by simp at q1;omega,by rw[hx];exact q2, ?_⟩;rw[hx,<-q3];congr 1;simp;omega
theorem testBit_fold(acc:List Nat)(i:Nat):∀(l:List Edge) (m:Nat),Nat.testBit (l.foldl (λm e=>cond (Region.binds .any e) (m ||| 2^e.on ||| acc.getD e.on 0) m) m) i=true ->
 Nat.testBit m i=true\/∃e∈l,Region.binds .any e=true/\(e.on=i\/Nat.testBit (acc.getD e.on 0) i=true)
 |[],m,h => .inl h
 |e::r,m,h=>by
  simp only[Na]at h;rcases testBit_fold acc i r _ h with h1|⟨e',he',hb,h1⟩
  .cases hb:Region.binds .any e with
   |false=>rw[hb]at h1;exact .inl h1
   |true =>
    rw[hb]at h1;simp only[cond_true,Nat.testBit_or,Zv]at h1;rcases h1 with(h1|h1)|h1
    .exact .inl h1
    .rw[Nat.testBit_two_pow]at h1;exact .inr ⟨e,η,hb,.inl (by simpa using h1)⟩
    .exact .inr ⟨e,η,hb,.inr h1⟩
  .exact .inr ⟨e',by simp[he'],hb,h1⟩
def DC(O:List Oper)(ls:Nat->Bool):Prop:=∀(j:Nat) (o:Oper),O[j]?=some o->ls j=true->∀e∈o.after,Region.binds .any e=true->ls e.on=true
theorem BU{O:List Oper}{ls:Nat->Bool}(hc:DC O ls):∀(j:Nat) (o:Oper),O[j]?=some o->(∀e∈o.after,Region.binds .any e=true->ls e.on=true)->∀i,Nat.testBit ((kZ O []).getD j 0) i=true->ls i=true:=by
 intro j;induction j using Nat.strongRecOn with
 |_ j ih =>
  intro o ho hr i hi;obtain⟨acc',q1,⟨rest,q2⟩,q3⟩:=(Fv O []).2 j o ho;simp only[mg,uY]at q1 q3;rw[q3]at hi;rcases testBit_fold acc' i _ 0 hi with h|⟨e,he,hb,h⟩
  .simp at h
  .have hon:=hr e (by simpa using he) hb;rcases h with h|h
   .rw[<-h];exact hon
   .have hlt:e.on<j:=by
     rcases Ju e.on j with h1|h1
     .exact h1
     .have:acc'.getD e.on 0=0:=by simp[List.getD,List.getElem?_eq_none (show acc'.length<=e.on by omega)]
      rw[this]at h;simp at h
    have hsame:(kZ O []).getD e.on 0=acc'.getD e.on 0:=by
     rw[q2];simp only[List.getD,UA (show e.on<acc'.length by omega)]
    rw[<-hsame]at h;have hO:e.on<O.length:=by have:=(qG.1 ho).1;omega
    exact ih e.on hlt O[e.on] (pW hO) (hc e.on _ (pW hO) hon) i h
section
variable {P:Program} [Wld P] [Kp] [Gr] {τ:Tab} {Q:Exit->Act->World->Prop}
theorem Conc.drew{N:Nat}{w0:World}{X0:List Nat}{e:Env}{b:aZ}{a:Act}{w:World}(h:Conc N w0 X0 e b a w):Conc N w0 X0 e b a w.drew:=by
 obtain⟨S,M,h⟩:=h;have hx:=Ext.drew w (bl S++X0)
 exact⟨S,M,⟨h.ms.st.drew,h.ms.gh.kept (λ_ _ _ h=>h),h.ms.inS,h.ms.inj⟩,h.x0,h.sz,⟨h.df.1,h.df.2.ext hx⟩,λt v hv=>(h.env t v hv).ext hx λi _ m hm=>⟨m,hm,Comp.refl m⟩,λi x hx'=>by
  obtain⟨m,h1,h2⟩:=h.box i x hx'
  exact⟨m,h1,h2.ext0 hx⟩⟩
theorem Qy{O:List Oper}{i:Nat}{o:Oper}(ho:O[i]?=some o){c:Nat}(hc:c∈qN o):c∈ZB O:=List.mem_flatMap.2 ⟨o,Gt ho,hc⟩
theorem acg{O:List Oper}{e:Env}{t:Nat}{x:AV}(h:ld t (prep O e)=some x):∀i∈dY x,i ∉ ZB O:=by
 unfold prep at h;cases hm:mention (ZB O) e with
 |true=>rw[hm]at h;exact QO h
 |false=>rw[hm]at h;exact oP hm h
theorem Conc.prep{N:Nat}{w0:World}{X0:List Nat}{e:Env}{b:aZ}{a:Act}{w:World}(h:Conc N w0 X0 e b a w)(O:List Oper):Conc N w0 X0 (prep O e) b a w:=by
 obtain⟨S,M,h⟩:=h;unfold Sw.prep;split
 .exact⟨S,M,h.kill _⟩
 .exact⟨S,M,h⟩
theorem abL{N:Nat}{w0:World}{X0:List Nat}{e:Env}{b:aZ}{a:Act}{w:World}{O:List Oper}{id:Nat}{k:Env->aZ->Prop}(hwo:WOk P w0)(hτ:dQ P τ=true)(hm:P.follows .mixedOrders=true)(hac:Uc O=true)(hso:PD O=true)(hdl:pU N O=true)
 (hc:Conc N w0 X0 e b a w) (hk:Ee (Den P) τ true O e b k) (hQ:∀e b a w,k e b->Conc N w0 X0 e b a w->Q .normal a w):(Code.region id O.toArray true).wp P Q a w:=by
 simp only[Ee,CY]at hk;obtain⟨hk,hnB⟩:=Oo hk;obtain⟨tr,eN,bN,q1,⟨q2,q2'⟩,q3,q4,q5⟩:=FN hτ hk;simp only[qbN]at q2;have hlen:tr.length=O.length:=by rw[<-q1];simp
 have hat:∀{i:Nat} {o:Oper},O[i]?=some o->∃x,tr[i]?=some x/\x.o=o:=by
  intro i o ho;rw[<-q1,MQ]at ho;cases hx:tr[i]? with
  |none=>simp[hx]at ho
  |some x=>simp[hx]at ho;exact⟨x,rfl,ho⟩
 have hat':∀{i:Nat} {x:TrE},tr[i]?=some x->O[i]?=some x.o:=by
  intro i x hx;rw[<-q1,MQ,hx];rfl
 have hdst:∀{i:Nat} {o:Oper},O[i]?=some o->∀t,o.dst=some t->DL N t:=by
  intro i o ho t ht;have:=oH.1 hdl o (Gt ho);rw[ht]at this;simpa[DL,I7]using this
 have pairS:∀{i j:Nat} {x y:TrE},i<j->tr[i]?=some x->tr[j]?=some y->Nat.testBit ((kZ O []).getD j 0) i=true \/
  ((∀t,x.o.dst=some t->t ∉ oC O y.o/\y.o.dst≠some t)/\∀t,y.o.dst=some t->t ∉ oC O x.o):=by
  intro i j x y hij hx hy;have hjl:j<O.length:=by rw[<-hlen];exact(qG.1 hy).1
  have h1:=oH.1 (oH.1 hso j (by simpa using hjl)) i (by simpa using hij);simp only[hat' hx,hat' hy,Zv,gX]at h1;rcases h1 with h1|⟨h1,h2⟩
  .exact .inl h1
  .refine .inr ⟨λt ht=>?_,λt ht=>?_⟩
   .rw[ht]at h1;simp only[gX,Jh]at h1;refine⟨λhm=>?_,λhe=>?_⟩
    .have:=h1.1;simp[hm]at this
    .have:=h1.2;rw[he]at this;simp at this
   .rw[ht]at h2;simp only[Jh]at h2;intro hm;simp[hm]at h2
 have pairB:∀{i j:Nat} {x y:TrE},i<j->tr[i]?=some x->tr[j]?=some y->(∀c∈y.lg.al,c ∉ x.lg.mn/\c ∉ x.lg.al)/\(Nat.testBit ((kZ O []).getD j 0) i=true \/
  ((∀c∈x.lg.rd,c ∉ y.lg.wr)/\(∀c∈x.lg.wr,c ∉ y.lg.rd/\c ∉ y.lg.wr)/\∀c∈x.lg.al,c ∉ y.lg.mn)):=by
  intro i j x y hij hx hy;have hjl:j<(tr.map (·.lg)).length:=by simpa using(qG.1 hy).1
  have h1:=oH.1 (oH.1 q2 j (by simpa using hjl)) i (by simpa using hij);simp only[MQ,hx,hy,vI,gX,Zv,Jh]at h1;refine⟨λc hc=>?_, ?_⟩
  .have:=JX.1 h1.1 c hc;simpa using this
  .rcases h1.2 with h2|h2
   .exact .inl h2
   .unfold apart at h2;simp only[Jh,Bool.or_eq_false_iff]at h2;refine .inr ⟨λc hc=>?_,λc hc=>?_,λc hc=>?_⟩
    .have:=JX.1 h2.1.1 c hc;simpa using this
    .have:=JX.1 h2.1.2 c hc;simpa using this
    .have:=JX.1 h2.2 c hc;simpa using this
 refine Fj hm hac (λls a w=>DC O ls/\Conc N w0 X0 (FF tr ls (prep O e)) (GG tr ls b) a w) ⟨λ_ _ _ h=>(by cases h), ?_⟩ ?_ ?_
 .rw[Ba,AY];exact(hc.prep O).drew
 .rintro ls a w i o ⟨hdc,hcc⟩ ho hi hpre;obtain⟨x,hx,rfl⟩:=hat ho;have hbefore:∀{j:Nat} {y:TrE},j<i->tr[j]?=some y->Nat.testBit ((kZ O []).getD i 0) j=true->ls j=true:=λhji hy hb=>BU hdc i x.o ho hpre _ hb
  have hafter:∀{j:Nat} {y:TrE},i<j->tr[j]?=some y->Nat.testBit ((kZ O []).getD j 0) i=true->ls j=false:=by
   intro j y hij hy hb;cases hl:ls j with
   |false=>rfl
   |true =>
    have:=BU hdc j y.o (hat' hy) (hdc j y.o (hat' hy) hl) i hb;rw[hi]at this;cases this
  have hany:=q5 i x hx;have hgo:=hany.go N w0 X0 a w (FF tr ls (prep O e)) (GG tr ls b) hwo hcc (λt ht=>?_) (λc hcr=>?_) (hdst ho) (λt y hy c hcy hcal=>?_) (λbi y hy c hcy hcal=>?_) (λa' w'=>DC O (λj=>Nat.beq j i||ls j)/\Conc N w0 X0 (FF tr (λj=>Nat.beq j i||ls j) (prep O e)) (GG tr (λj=>Nat.beq j i||ls j) b) a' w') Q (λa' w' hc'=>⟨?_, ?_⟩)
  .unfold wpOp;simp only[TM,ho];cases hw:Region.wanted x.o (yielded O.toArray a.tmps)with
   |true=>simp only[if_true];exact .inl (hgo.1 hw)
   |false=>simp only[eF,if_false];exact hgo.2 hw
  .refine sQ (λj y hy hyd=>?_) rfl;rcases Nat.lt_trichotomy j i with hji|rfl|hij
   .rw[decide_eq_true hji];rcases pairS hji hy hx with hb|⟨h1,_⟩
    .exact hbefore hji hy hb
    .exact absurd ht (h1 t hyd).1
   .rw[hi];simp
   .rw[decide_eq_false ω];rcases pairS hij hx hy with hb|⟨_,h2⟩
    .exact hafter hij hy hb
    .exact absurd ht (h2 t hyd)
  .refine yM (λj y hy hyd=>?_) rfl;have hyw:c∈y.lg.wr:=by rw[(q5 j y hy).wr];exact hyd
   rcases Nat.lt_trichotomy j i with hji|rfl|hij
   .rw[decide_eq_true hji];rcases(pairB hji hy hx).2 with hb|⟨_,h2,_⟩
    .exact hbefore hji hy hb
    .exact absurd hcr (h2 c hyw).1
   .rw[hi];simp
   .rw[decide_eq_false ω];rcases(pairB hij hx hy).2 with hb|⟨h1,_,_⟩
    .exact hafter hij hy hb
    .exact absurd hyw (h1 c hcr)
  .rcases Ph hy with h0|⟨j,z,hz,hlj,rfl⟩
   .exact acg h0 c hcy (Qy ho (hany.al c hcal))
   .have hids:=(q5 j z hz).ids c hcy;rcases Nat.lt_trichotomy j i with hji|rfl|hij
    .have:=(pairB hji hz hx).1 c hcal;rcases hids with h1|h1
     .exact this.1 h1
     .exact this.2 h1
    .rw[hi]at hlj;cases hlj
    .rcases hids with h1|h1
     .rcases(pairB hij hx hz).2 with hb|⟨_,_,h3⟩
      .have:=hafter hij hz hb;rw[hlj]at this;cases this
      .exact h3 c hcal h1
     .exact((pairB hij hx hz).1 c h1).2 hcal
  .rcases PZ hy with h0|⟨j,z,hz,hlj,hzf⟩
   .exact hnB bi y h0 c hcy (Qy ho (hany.al c hcal))
   .have h1:=(q5 j z hz).obs bi y hzf c hcy;rcases Nat.lt_trichotomy j i with hji|rfl|hij
    .exact((pairB hji hz hx).1 c hcal).1 h1
    .rw[hi]at hlj;cases hlj
    .rcases(pairB hij hx hz).2 with hb|⟨_,_,h3⟩
     .have:=hafter hij hz hb;rw[hlj]at this;cases this
     .exact h3 c hcal h1
  .intro j o' ho' hl e' he' hb';have hl:(Nat.beq j i||ls j)=true:=hl;show(Nat.beq e'.on i||ls e'.on)=true
   by_cases hji:j=i
   .subst hji;rw[ho]at ho';cases ho';rw[hpre e' he' hb'];simp
   .rw[gI hji]at hl;rw[hdc j o' ho' (by simpa using hl) e' he' hb'];simp
  .refine hc'.congr (λt=>afk hx (λj y t hij hy hxd hyd=>?_) t) (λc=>aft hx (λj y c hij hy hxc hyc=>?_) c)
   .rcases pairS hij hx hy with hb|⟨h1,_⟩
    .exact hafter hij hy hb
    .exact absurd hyd (h1 t hxd).2
   .rcases(pairB hij hx hy).2 with hb|⟨_,h2,_⟩
    .exact hafter hij hy hb
    .exact absurd (by rw[(q5 j y hy).wr];exact hyc) (h2 c (by rw[hany.wr];exact hxc)).2
 .rintro ls a w ⟨_,hcc⟩ hall;refine hQ eN bN a w q2' (hcc.congr (λt=>?_) (λi=>?_))
  .rw[q3];refine sQ (λj y hy _=>?_) rfl;rw[hall j (by rw[<-hlen];exact(qG.1 hy).1)]
  .rw[q4];refine yM (λj y hy _=>?_) rfl;rw[hall j (by rw[<-hlen];exact(qG.1 hy).1)]
end
end Go.Sw
