/-
  Rules of the abstract run, plain laws, and what functions answer, for the law TopMeetings.
  Conditions: none.
-/
import Derived.Test.YtdpkjhnfklkkjaaGreatM6
import Derived.OpenShut
import Derived.Lib.SmallJoins
import Derived.Test.YtdpkjhnfklkkjaaGreatRows
import Derived.Test.YtdpkjhnfklkkjaaGreatChecked
set_option linter.all false
namespace Go.Sw
open Go Go.RowKit
def Ex.x:Ex->Exit
 |.normal => .normal
 |.ret => .ret
 |.exit id => .exit id
theorem Ghs.none_(w0 w:World):Ghs w0 w [] (λ_=>none):=⟨λ_ _ _ h=>by simp at h,λ_ _ _ _ _ _ h=>by simp at h,λ_ _ _ _ _ _ h=>by simp at h⟩
section
variable {P:Program} [Wld P] [Kp] [Gr] {τ:Tab} {N:Nat} {w0:World} {X0:List Nat}
variable [hwo:WOk P w0]
def LW(P:Program)(c:Code)(Q:Exit->Act->World->Prop)(a:Act)(w:World):Prop:=∀b k cs,∃e a' w',Q e a' w'/\Arrives P (lone (b.at a (.code c :: .inLoop c::k)) cs w) b k cs e a' w'
theorem LW.loop{c:Code}{Q:Exit->Act->World->Prop}{a:Act}{w:World}(h:LW P c Q a w):(Code.loop c).wp P Q a w:=by
 intro b k cs;obtain⟨e,a',w',hq,harr⟩:=h b k cs;exact⟨e,a',w',hq,.of_steps (.one step_loop) harr⟩
theorem LW.step{c:Code}{Q:Exit->Act->World->Prop}{a:Act}{w:World}(h:c.wp P (Exit.then (LW P c Q) Q) a w):LW P c Q a w:=by
 intro b k cs;obtain⟨e,a₁,w₁,hq,harr⟩:=h b (.inLoop c::k) cs;cases e with
 |normal =>
  obtain⟨e₂,a₂,w₂,hq₂,harr₂⟩:=hq b k cs;exact⟨e₂,a₂,w₂,hq₂,.of_steps (Steps.trans harr (.one step_inLoop)) harr₂⟩
 |exit id=>exact⟨_,a₁,w₁,hq,.pass (x:=.inLoop c) rfl (λ_ _ => .inl η) harr⟩
 |goto l=>exact⟨_,a₁,w₁,hq,.pass (x:=.inLoop c) rfl (λ_ _ => .inl η) harr⟩
 |ret=>exact⟨_,a₁,w₁,hq,.pass (x:=.inLoop c) rfl (λ_ _ => .inl η) harr⟩
 |panic ch=>exact⟨_,a₁,w₁,hq,.pass (x:=.inLoop c) rfl (λ_ _ => .inl η) harr⟩
 |outgrown=>exact⟨_,a₁,w₁,hq,.pass (x:=.inLoop c) rfl (λ_ _ => .inl η) harr⟩
theorem VL{id:Nat}{ops:Array Oper}{dr:Bool}{QA:Ex->Env->aZ->Prop}{Q:Exit->Act->World->Prop}{e:Env}{b:aZ}{a:Act}{w:World}(hτ:dQ P τ=true)(hm:P.follows .mixedOrders=true)(ht:fV N (.region id ops dr)=true)(hc:Conc N w0 X0 e b a w)
 (hk:Ee (Den P) τ dr ops.toList e b (QA .normal)) (hQ:∀e b a w,QA .normal e b->Conc N w0 X0 e b a w->Q .normal a w):(Code.region id ops dr).wp P Q a w:=by
 obtain⟨l⟩:=ops;simp only[fV,gX]at ht;cases dr with
 |false =>
  simp only[Ee]at hk;exact bK (HY hτ hQ ht.1 hk hc)
 |true =>
  simp only[Bool.not_true,eX,gX]at ht;exact abL hwo hτ hm ht.2.1 ht.2.2 ht.1 hc hk hQ
theorem SubE.get:∀{e₀ e:Env},SubE e₀ e->∀{t:Nat} {v:AV},ld t e₀=some v->ld t e=some v
 |[],e,_,t,v,h=>by simp[ld]at h
 |(s,u)::r,e,hs,t,v,h=>by
  by_cases hst:s=t
  .subst hst;rw[dn]at h;cases h;exact hs.1
  .rw[dD _ _ hst]at h;exact SubE.get hs.2 h
theorem SubB.get:∀{e₀ e:aZ},SubB e₀ e->∀{t:Nat} {v:Bk},ld t e₀=some v->ld t e=some v
 |[],e,_,t,v,h=>by simp[ld]at h
 |(s,u)::r,e,hs,t,v,h=>by
  by_cases hst:s=t
  .subst hst;rw[dn]at h;cases h;exact hs.1
  .rw[dD _ _ hst]at h;exact SubB.get hs.2 h
theorem Conc.sub{e e':Env}{b b':aZ}{a:Act}{w:World}(h:Conc N w0 X0 e' b' a w)(he:SubE e e')(hb:SubB b b'):Conc N w0 X0 e b a w:=by
 obtain⟨S,M,h⟩:=h;exact⟨S,M,h.ms,h.x0,h.sz,h.df,λt v hv=>h.env t v (he.get hv),λi x hx=>h.box i x (hb.get hx)⟩
theorem Conc.ghost{e:Env}{b:aZ}{a:Act}{w:World}{t i T s:Nat}(h:Conc N w0 X0 e b a w)(ht:ld t e=some (.c (.v (.slice none 0 0))))(hm:mention [i] e=false)(hi:ld i b=none)(hs:0<s)(hmb:jE [i] b=false):Conc N w0 X0 ((t,.gs i 0)::e) ((i,.grow T s [])::b) a w:=by
 obtain⟨S,M,h⟩:=h;refine⟨S,M.set i ⟨false,true,none,T,s,0,0,[],none⟩,⟨h.ms.st,h.ms.gh.set (λx hx=>by cases hx) (λ_ _ _ _ _ _ _ h=>h) (λ_ _ _ h=>h) (λg' h1 h2=>by cases h2),λc mc hc hco gc hgc=>?_,λc c' mc mc' gc h1 h2 h3 h4 h5 h6=>?_⟩,h.x0,h.sz,h.df,λc v hv=>?_,λc x hx=>?_⟩
 .by_cases hci:c=i
  .subst hci;rw[MM.set_same]at hc;cases hc;cases hgc
  .rw[MM.set_other _ _ hci]at hc;exact h.ms.inS c mc hc hco gc hgc
 .by_cases hci:c=i
  .subst hci;rw[MM.set_same]at h1;cases h1;cases h5
  .by_cases hci':c'=i
   .subst hci';rw[MM.set_same]at h2;cases h2;cases h6
   .rw[MM.set_other _ _ hci]at h1;rw[MM.set_other _ _ hci']at h2;exact h.ms.inj c c' mc mc' gc h1 h2 h3 h4 h5 h6
 .by_cases hct:t=c
  .subst hct;rw[dn]at hv;cases hv;refine .gs (MM.set_same _ _ _) rfl (jg _) (λ_=>?_) ?_
   .exact(h.env _ _ ht).v_
   .rw[(h.env _ _ ht).v_];exact⟨_,_,rfl⟩
  .rw[dD _ _ hct]at hv;refine(h.env c v hv).ext (Ext.refl _ _) λj hj m hm'=>⟨m, ?_,Comp.refl m⟩
   have hne:j≠i:=λe=>by subst e;exact oP hm hv j hj η
   rw[MM.set_other _ _ hne];exact hm'
 .by_cases hci:i=c
  .subst hci;rw[dn]at hx;cases hx;exact⟨_,MM.set_same _ _ _,rfl,rfl,rfl,⟨rfl,hs⟩,rfl,.inl ⟨rfl,rfl,rfl⟩⟩
  .rw[dD _ _ hci]at hx;obtain⟨m,h1,h2⟩:=h.box c x hx;exact⟨m,by rw[MM.set_other _ _ (λe=>hci e.symm)];exact h1,h2.ext (Ext.refl _ _) λc hc mc hmc=>⟨mc,by rw[MM.set_other _ _ (λe=>by subst e;exact nS hmb _ x hx c hc η)];exact hmc,Comp.refl mc⟩⟩
theorem iL(hτ:dQ P τ=true)(hm:P.follows .mixedOrders=true):∀(c:Code) {QA:Ex->Env->aZ->Prop} {Q:Exit->Act->World->Prop} {e:Env} {b:aZ} {a:Act} {w:World},fV N c=true->nH (Den P) τ c QA e b->Conc N w0 X0 e b a w ->
 (∀x e b a w,QA x e b->Conc N w0 X0 e b a w->Q x.x a w)->c.wp P Q a w
 |.skip,QA,Q,e,b,a,w,_,hk,hc,hQ=>jo (hQ .normal _ _ _ _ hk hc)
 |.ret,QA,Q,e,b,a,w,_,hk,hc,hQ=>tV (hQ .ret _ _ _ _ hk hc)
 |.exit id,QA,Q,e,b,a,w,_,hk,hc,hQ=>sF (hQ (.exit id) _ _ _ _ hk hc)
 |.region id ops dr,QA,Q,e,b,a,w,ht,hk,hc,hQ=>by
  simp only[nH]at hk;split at hk
  .exact VL (QA:=QA) hτ hm ht hc hk (λe b a w h1 h2=>hQ .normal _ _ _ _ h1 h2)
  .rename_i t i n hp;obtain⟨S,M,h⟩:=hc
   have hl:ld t e=some (.gs i n):=by
    unfold aej at hp;split at hp
    .split at hp
     .split at hp
      .rename_i hl;cases hp;exact hl
      .cases hp
     .cases hp
    .cases hp
   obtain⟨v',f,S',M',h1,h2,h3,h4,_⟩:=uN h (h.env t _ hl) hk;have h5:=h.chg h2 h3;refine VL (QA:=QA) hτ hm ht ⟨S',M',h5.ms,h5.x0,h5.sz,h5.df,λs x hx=>?_,h5.box⟩ h1 (λe b a w h1 h2=>hQ .normal _ _ _ _ h1 h2)
   by_cases hs:t=s
   .subst hs;rw[dn]at hx;cases hx;exact .d h4
   .rw[dD _ _ hs]at hx;exact h5.env s x hx
 |.seq x y,QA,Q,e,b,a,w,ht,hk,hc,hQ=>by
  simp only[fV,gX]at ht;refine bI (iL hτ hm x ht.1 hk hc λz e b a w hz hc=>?_);cases z with
  |normal=>exact dW (iL hτ hm y ht.2 hz hc hQ)
  |ret=>exact XI (hQ .ret _ _ _ _ hz hc)
  |exit id=>exact rZ (hQ (.exit id) _ _ _ _ hz hc)
 |.cond c x y,QA,Q,e,b,a,w,ht,hk,hc,hQ=>by
  simp only[fV,gX]at ht;simp only[nH]at hk;split at hk
  .rename_i p hp;obtain⟨S,M,h⟩:=hc;refine wp_cond_split ((h.ev hp).v_) (λhp1=>?_) (λhp1=>?_)
   .subst hp1;exact iL hτ hm x ht.1 (hk.t rfl) ⟨S,M,h⟩ hQ
   .subst hp1;exact iL hτ hm y ht.2 (hk.f rfl) ⟨S,M,h⟩ hQ
  .cases hk
 |.block id x,QA,Q,e,b,a,w,ht,hk,hc,hQ=>by
  simp only[fV]at ht;refine iK (iL hτ hm x ht hk hc λz e b a w hz hc=>?_);cases z with
  |normal=>exact uq (hQ .normal _ _ _ _ hz hc)
  |ret=>exact alC (hQ .ret _ _ _ _ hz hc)
  |exit i =>
   simp only at hz;cases hi:Nat.beq i id with
   |true =>
    rw[hi]at hz;have:=jX hi;subst this;exact EX (hQ .normal _ _ _ _ hz hc)
   |false =>
    rw[hi]at hz;exact afg hi (hQ (.exit i) _ _ _ _ hz hc)
 |.loop x,QA,Q,e,b,a,w,ht,hk,hc,hQ=>by
  simp only[fV]at ht;obtain⟨hwl⟩:=hk;refine LW.loop (hwl (λe b=>∀a w,Conc N w0 X0 e b a w->LW P x Q a w) (λe b hF a w hc=>?_) (λe b e' b' hI he hb a w hc=>hI a w (hc.sub he hb)) (λe b t i T s hI h1 h2 h3 h4 h5 a w hc=>hI a w (hc.ghost h1 h2 h3 h4 h5)) a w hc);refine LW.step (iL hτ hm x ht hF hc λz e b a w hz hc=>?_);cases z with
  |normal=>exact dW (hz a w hc)
  |ret=>exact XI (hQ .ret _ _ _ _ hz hc)
  |exit id=>exact rZ (hQ (.exit id) _ _ _ _ hz hc)
 |.rangeFunc _ _ _ _,QA,Q,e,b,a,w,_,hk,hc,hQ=>False.elim hk
 |.scope _,QA,Q,e,b,a,w,_,hk,hc,hQ=>False.elim hk
 |.label _,QA,Q,e,b,a,w,_,hk,hc,hQ=>False.elim hk
 |.goto _,QA,Q,e,b,a,w,_,hk,hc,hQ=>False.elim hk
 |.refuse _,QA,Q,e,b,a,w,_,hk,hc,hQ=>False.elim hk
theorem Bz:∀(xs:List AV) (i t:Nat) (v:AV),ld t (uM i xs)=some v->i<=t/\xs[t-i]?=some v
 |[],_,_,_,h=>by simp[uM,ld]at h
 |u::r,i,t,v,h=>by
  simp only[uM]at h
  by_cases e:i=t
  .subst e;rw[dn]at h;cases h;simp
  .rw[dD _ _ e]at h;obtain⟨h1,h2⟩:=Bz r (i+1) t v h;refine⟨ω, ?_⟩;rw[show t-i=(t-(i+1))+1 by omega];simpa using h2
theorem Xi{X:List Nat}{M:MM}{w:World}{t:TypeId}{ti:TI}{ad:Addr}{us:List Value}{cs:List Cell}{v:AV}(ht:iQ P t ti=true)(hm:Mem w ad us)(hr:RepL w X us cs)(hv:jd ti cs=some v):
 ∃u,(loadVar t ad).run P w=.ok u w/\RepV w X M u v:=by
 obtain⟨u,hu,hR⟩:=Dn (M:=M) (ρ:=λ_ => .pointer (some ad)) (d:=none) (ty:=0) (pos := "") (af:=#[]) (gd:=none) (x:=.tmp 0) ht rfl hm hr hv;refine⟨u, ?_,hR⟩;simp only[execOp,Instr.loadAt,Instr.sureAddr,Sem.run_bind,Sem.run_pure,Result.andThen_ok]at hu;cases hl:(loadVar t ad).run P w with
 |ok u' w1=>rw[hl]at hu;simp at hu;rw[hu.1,hu.2]
 |halt u' w1=>rw[hl]at hu;simp at hu
theorem Gj{w:World}{X:List Nat}{M:MM}{u:Value}{ti:TI}{cs:List Cell}{v:AV}(hv:jd ti cs=some v)(h:RepV w X M u v):RepD w X u v:=by
 have hd:(∃x,v=.c x)\/∃l,v=.agg l:=by
  cases ti<;>simp only[jd]at hv<;>first|(simp at hv;done)|(split at hv<;>cases hv<;>first|exact .inl ⟨_,rfl⟩|exact .inr ⟨_,rfl⟩)
 rcases hd with⟨x,rfl⟩|⟨l,rfl⟩
 .cases h with
  |d h=>exact h
 .cases h with
  |d h=>exact h
theorem abG{S:List Bx}{M:MM}{a:Act}{w:World}{e:Env}{b:aZ}{r:ResultVar}{k:AV->Prop}(hτ:dQ P τ=true)(h:Sta N w0 X0 S M a w e b)(hk:IK τ e b r k):∃u v,k v/\(iw a.tmps r).run P w=.ok u w/\RepD w X0 u v:=by
 unfold IK at hk;cases r with
 |tmp t =>
  simp only at hk;cases ht:ld t e with
  |none=>simp[ht]at hk
  |some v =>
   simp only[ht]at hk;obtain⟨v',f,S',M',h1,h2,h3,h4,h5⟩:=uN h (h.env t v ht) hk;exact⟨_,v',h1,rfl,h4.ext (Ext.drop λx hx=>qP _ hx)⟩
 |cell c t =>
  simp only at hk;split at hk
  .rename_i ti i ht hc;split at hk
   .rename_i cs hb;split at hk
    .rename_i v hv;obtain⟨m,g,hm,hvv,hg,hxe⟩:=(h.env c _ hc).ptr_;obtain⟨m',hm',h1,h2,⟨g',h3⟩,h4⟩:=h.box i _ hb;rw[hm]at hm';cases hm';obtain⟨u,hu,hR⟩:=Xi (M:=M) (bU hτ ht) (Mem.of_row (h.row hm h2 hg)) h4 hv;refine⟨u,v,hk, ?_,(Gj hv hR).ext (Ext.drop λx hx=>qP _ hx)⟩;simp only[iw,hxe,asAddr,Sem.run_bind,Sem.run_pure,Result.andThen_ok];rw[hu]
    .cases hk
   .cases hk
  .cases hk
theorem yI{S:List Bx}{M:MM}{a:Act}{w:World}{e:Env}{b:aZ}(hτ:dQ P τ=true)(h:Sta N w0 X0 S M a w e b):∀{l:List ResultVar} {k:List AV->Prop},CP τ e b l k->∃us vs,k vs/\(l.mapM (iw a.tmps)).run P w=.ok us w/\us.length=vs.length/\∀(i:Nat) u v,us[i]?=some u->vs[i]?=some v->RepD w X0 u v
 |[],k,hk=>⟨[],[],hk,η,rfl,λi u v h=>by simp at h⟩
 |r::l,k,hk=>by
  simp only[CP]at hk;obtain⟨u,v,h1,h2,h3⟩:=abG hτ h hk;obtain⟨us,vs,q1,q2,q3,q4⟩:=yI hτ h h1;refine⟨u::us,v::vs,q1, ?_,by simp[q3],λi x y hx hy=>?_⟩
  .rw[List.mapM_cons,Sem.run_bind,h2];simp only[Result.andThen_ok,Sem.run_bind,q2,Sem.run_pure]
  .cases i with
   |zero=>simp at hx hy;subst hx hy;exact h3
   |succ i=>exact q4 i x y (by simpa using hx) (by simpa using hy)
theorem GX{w:World}{us:List Value}{vs:List AV}(hl:us.length=vs.length)(h:∀(i:Nat) u v,us[i]?=some u->vs[i]?=some v->RepD w X0 u v):RepR w X0 (if h:us.toArray.size=1 then us.toArray[0]else .tuple us.toArray) (aW vs):=by
 match us,vs,hl with
 |[],[],_=>exact .tup rfl λi u v h=>by simp at h
 |[u],[v],_=>exact .d (h 0 u v rfl rfl)
 |u::u'::us,v::v'::vs,hl=>exact .tup hl h
end
section
variable {P:Program} [Wld P] {τ:Tab} {N:Nat} {w0:World} {X0:List Nat}
variable [hwo:WOk P w0]
theorem vM{N:Nat}{w:World}{X:List Nat}{xs:List AV}{vs:List Value}{a:Act}(hX:∀m∈X,m<w.heap.size)(hl:vs.length=xs.length)(hR:∀(i:Nat) u v,vs[i]?=some u->xs[i]?=some v->RepD w X u v)(hF:Frm N a (uw 0 vs)):Conc N w X (uM 0 xs) [] a w:=by
 refine⟨[],λ_=>none,⟨StG.refl w,Ghs.none_ _ _,λ_ _ h=>(by cases h),λ_ _ _ _ _ h=>(by cases h)⟩,λm hm=>⟨hX m hm,QF m⟩,hF.size,⟨⟨hF.defers,λ_ _ h=>nomatch h⟩,λ_ _ h=>nomatch h⟩,λt v hv=>?_,λi x h=>(by simp[ld]at h)⟩;obtain⟨_,h2⟩:=Bz xs 0 t v hv;simp only[Nat.sub_zero]at h2;have hlt:t<vs.length:=by rw[hl];exact(qG.1 h2).1
 have h3:vs[t]?=some vs[t]:=pW hlt
 have h4:=hF.get t vs[t] (by
  have:∀(vs:List Value) (i t:Nat) u,vs[t]?=some u->lk (i+t) (uw i vs)=some u:=by
   intro vs;induction vs with
   |nil=>intro i t u h;simp at h
   |cons x r ih =>
    intro i t u h;cases t with
    |zero=>simp at h;subst h;simp[uw,lk]
    |succ t =>
     simp only[uw,lk];rw[gI ω];have:=ih (i+1) t u (by simpa using h);rw[show i+1+t=i+(t+1) by omega]at this;exact this
  have:=this vs 0 t _ h3
  rwa [uY]at this)
 rw[h4];exact .d (hR t _ v h3 h2)
theorem zK{f:FuncId}{fn:Func}{c:Code}{xs:List AV}{r:AV}(hτ:dQ P τ=true)(hm:P.follows .mixedOrders=true)(hf:P.funcs[f]?=some fn)(hb:fn.body=some c)(hbody:fE P f=true)(ht:fV fn.ntmps c=true)(hle:Nat.ble xs.length fn.ntmps=true)
 (h:nH (Den P) τ c (EJ τ fn r) (uM 0 xs) []) (hn:mG xs=true:=by rfl):Den P f xs r:=by
 refine Den.of ⟨hbody,λw X vs ho hX hl hR=>?_⟩ hn
 haveI:WOk P w:=.of ho
 refine enter hf hb rfl (by rw[hl];exact hle) λa hF=>?_
 have hc:Conc fn.ntmps w X (uM 0 xs) [] a w:=by
  refine⟨[],λ_=>none,⟨StG.refl w,Ghs.none_ _ _,λ_ _ h=>(by cases h),λ_ _ _ _ _ h=>(by cases h)⟩,λm hm=>⟨hX m hm,QF m⟩,hF.size,⟨⟨hF.defers,λ_ _ h=>nomatch h⟩,λ_ _ h=>nomatch h⟩,λt v hv=>?_,λi x h=>(by simp[ld]at h)⟩;obtain⟨_,h2⟩:=Bz xs 0 t v hv;simp only[Nat.sub_zero]at h2;have hlt:t<vs.length:=by rw[hl];exact(qG.1 h2).1
  have h3:vs[t]?=some vs[t]:=pW hlt
  have h4:=hF.get t vs[t] (by
   have:∀(vs:List Value) (i t:Nat) u,vs[t]?=some u->lk (i+t) (uw i vs)=some u:=by
    intro vs;induction vs with
    |nil=>intro i t u h;simp at h
    |cons x r ih =>
     intro i t u h;cases t with
     |zero=>simp at h;subst h;simp[uw,lk]
     |succ t =>
      simp only[uw,lk];rw[gI ω];have:=ih (i+1) t u (by simpa using h);rw[show i+1+t=i+(t+1) by omega]at this;exact this
   have:=this vs 0 t _ h3
   rwa [uY]at this)
  rw[h4];exact .d (hR t _ v h3 h2)
 refine iL hτ hm c ht h hc λx e b a w' hx hc'=>?_
 obtain⟨S,M,hs⟩:=hc'
 have fin:∀us vs,(fn.results.toList.mapM (iw a.tmps)).run P w'=.ok us w'->us.length=vs.length->(∀(i:Nat) u v,us[i]?=some u->vs[i]?=some v->RepD w' X u v)->aW vs=r->a.defers=[]/\∃v,(results fn a.tmps).run P w'=.ok v w'/\Ar (λu w1=>RepF w.heap.size w1 X u r/\Below w.heap.size w w1) (.returned v) w':=by
  intro us vs h1 h2 h3 h4;subst h4;refine⟨hs.df.1.1,_, ?_,_,rfl,(GX h2 h3).f,hs.ms.st.below.b0⟩;rw[jV,Sem.run_bind,qbQ];simp[h1]
 cases x with
 |normal =>
  simp only[EJ]at hx;split at hx
  .rename_i hr;exact fin [] [] (by rw[hr];simp) rfl (λi u v h=>by simp at h) hx.eq
  .cases hx
 |ret =>
  simp only[EJ]at hx;obtain⟨us,vs,h1,h2,h3,h4⟩:=yI hτ hs hx;exact fin us vs h2 h3 h4 h1.eq
 |exit id=>cases hx
inductive OwnR (P:Program) (w:World) (XX:List Nat) (M:MM) (a:Act) (b':aZ):List ResultVar->List (Option AV)->List (Nat × Nat)->Prop where
 |nil:OwnR P w XX M a b' [] [] []
 |no {r l vs G} (t:OwnR P w XX M a b' l vs G):OwnR P w XX M a b' (r::l) (none::vs) G
 |own0 {r l vs G T s} (hr:(iw a.tmps r).run P w=.ok (.slice none 0 0) w) (hs:0<s) (t:OwnR P w XX M a b' l vs G):OwnR P w XX M a b' (r::l) (some (.own T s [])::vs) G
 |own {r l vs G T s es id g m cap} {uss:List (List Value)} {rest:List Value} (hr:(iw a.tmps r).run P w=.ok (.slice (some ⟨g,0,none⟩) es.length cap) w) (hs:0<s) (hg:w.heap[g]?=some (.cells (uss.flatten++rest).toArray T (0,0))) (hS:RepS w XX s uss es) (hc:cap*s=(uss.flatten++rest).length) (hm:cap<=maxLen) (hn:es.length<=cap)
  (hM:M id=some m) (ho:m.own=true) (hmg:m.g=some g) (hd:ld id b'=some .dead) (hid:id ∉ G.map (·.1)) (t:OwnR P w XX M a b' l vs G):OwnR P w XX M a b' (r::l) (some (.own T s es)::vs) ((id,g)::G)
theorem OwnR.at{P:Program}{w:World}{XX:List Nat}{M:MM}{a:Act}{b':aZ}{l:List ResultVar}{vs:List (Option AV)}{G:List (Nat×Nat)}(h:OwnR P w XX M a b' l vs G):∀p∈G,∃m,M p.1=some m/\m.own=true/\m.g=some p.2/\ld p.1 b'=some .dead:=by
 induction h with
 |nil=>intro p hp;cases hp
 |no t ih=>exact ih
 |own0 _ _ t ih=>exact ih
 |own hr hs hg hS hc hm hn hM ho hmg hd hid t ih =>
  intro p hp;rcases jA.1 hp with rfl|hp
  .exact⟨_,hM,ho,hmg,hd⟩
  .exact ih p hp
theorem OwnR.nd{P:Program}{w:World}{XX:List Nat}{M:MM}{a:Act}{b':aZ}{S:List Bx}(hms:MS w0 w S M){l:List ResultVar}{vs:List (Option AV)}{G:List (Nat×Nat)}(h:OwnR P w XX M a b' l vs G):(G.map (·.2)).Nodup:=by
 induction h with
 |nil=>exact List.nodup_nil
 |no t ih=>exact ih
 |own0 _ _ t ih=>exact ih
 |own hr hs hg hS hc hm hn hM ho hmg hd hid t ih =>
  simp only[xZ,List.nodup_cons];refine⟨λhm=>?_,ih⟩;obtain⟨p,hp,hpe⟩:=iV.1 hm;obtain⟨m',h1,h2,h3,_⟩:=t.at p hp;have:=hms.inj _ _ _ _ _ hM h1 ho h2 hmg (hpe▸h3);exact hid (iV.2 ⟨p,hp,this.symm⟩)
theorem um{S:List Bx}{M:MM}{a:Act}{w:World}{e:Env}:∀{l:List ResultVar} {os:List (Option (TypeId×Nat))} {b:aZ} {k:List (Option AV)->aZ->Prop},Sta N w0 X0 S M a w e b->Ai e l os b k ->
 ∃vs b' G,k vs b'/\Sta N w0 X0 S M a w e b'/\(∀i,ld i b=some .dead->ld i b'=some .dead)/\OwnR P w (bl S++X0) M a b' l vs G/\∀p∈G,∃T s es,ld p.1 b=some (.grow T s es)
 |[],[],b,k,h,hk=>⟨[],b,[],hk,h,λ_ h=>h,.nil,λp hp=>by cases hp⟩
 |[],_::_,b,k,h,hk=>False.elim hk
 |.tmp _::_,[],b,k,h,hk=>False.elim hk
 |.cell _ _::_,[],b,k,h,hk=>False.elim hk
 |.cell _ _::_,some _::_,b,k,h,hk=>False.elim hk
 |.cell c t::l,none::os,b,k,h,hk=>by
  simp only[Ai]at hk;obtain⟨vs,b',G,h1,h2,h3,h4,h5⟩:=um h hk;exact⟨_,b',G,h1,h2,h3,.no h4,h5⟩
 |.tmp t::l,none::os,b,k,h,hk=>by
  simp only[Ai]at hk;obtain⟨vs,b',G,h1,h2,h3,h4,h5⟩:=um h hk;exact⟨_,b',G,h1,h2,h3,.no h4,h5⟩
 |.tmp t::l,some (T,s)::os,b,k,h,hk=>by
  simp only[Ai]at hk;split at hk
  .rename_i i n ht;split at hk
   .rename_i T' s' es hb;split at hk
    .rename_i hT hs;have:=jX hT;subst this;have:=jX hs;subst this;obtain⟨hn,hk⟩:=hk;rw[Nr]at hk;obtain⟨m,hm,q1,q2,q3,q4,q5,q6⟩:=h.box i _ hb
     have hsta:Sta N w0 X0 S M a w e (up i .dead b):=⟨h.ms,h.x0,h.sz,h.df,h.env,λc x hx=>by
      rw[qY]at hx;split at hx
      .rename_i hc;subst hc;cases hx;exact⟨m,hm,trivial⟩
      .exact h.box c x hx⟩
     obtain⟨vs,b',G,h1,h2,h3,h4,h5⟩:=um hsta hk;have hdead:ld i b'=some .dead:=h3 i (by rw[qY,if_pos rfl])
     have hold:∀c,ld c b=some .dead->ld c b'=some .dead:=λc hc=>h3 c (by
      rw[qY];split
      .rfl
      .exact hc)
     have h5':∀p∈G,p.1≠i/\∃T s es,ld p.1 b=some (.grow T s es):=λp hp=>by
      obtain⟨T,s,es,h6⟩:=h5 p hp;rw[qY]at h6;split at h6
      .cases h6
      .rename_i hc;exact⟨hc,T,s,es,h6⟩
     obtain⟨m',hm',hvv,hh⟩:=(h.env t _ ht).gs_;rw[hm]at hm';cases hm';have hval:=hh ω;rcases q6 with⟨g1,rfl,g3⟩|⟨g,uss,rest,g1,g2,g3,g4,g5,g6⟩
     .refine⟨_,b',G,h1,h2,hold,.own0 ?_ q4.2 h4,λp hp=>(h5' p hp).2⟩;simp only[iw,hval,Sem.run_pure];unfold hdr;rw[g1,g3,q5];rfl
     .have hrow:=h.row hm q2 g1;refine⟨_,b',(i,g)::G,h1,h2,hold,.own (m:=m) (cap:=m.cap) (uss:=uss) (rest:=rest) ?_ q4.2 (by rw[<-q3,<-g2];exact hrow) g3 (by rw[g4,g2]) g5 ω hm q2 g1 hdead (λhc=>?_) h4,λp hp=>?_⟩
      .simp only[iw,hval,Sem.run_pure];unfold hdr;rw[g1,q5];rfl
      .obtain⟨p,hp,hpe⟩:=iV.1 hc;exact(h5' p hp).1 hpe
      .rcases jA.1 hp with rfl|hp
       .exact⟨_,_,_,hb⟩
       .exact(h5' p hp).2
    .cases hk
   .cases hk
  .rename_i ht;split at hk
   .rename_i hs;obtain⟨vs,b',G,h1,h2,h3,h4,h5⟩:=um h hk;refine⟨_,b',G,h1,h2,h3,.own0 ?_ (by simpa[I7]using hs) h4,h5⟩;simp only[iw,(h.env t _ ht).v_,Sem.run_pure]
   .cases hk
  .cases hk
theorem XV{S:List Bx}{M:MM}{a:Act}{w:World}{e:Env}{b:aZ}{r:ResultVar}{k:AV->Prop}{G:List (Nat×Nat)}(hG:∀p∈G,∃m,M p.1=some m/\m.own=true/\m.g=some p.2/\ld p.1 b=some .dead)(hτ:dQ P τ=true)(h:Sta N w0 X0 S M a w e b)(hk:IK τ e b r k):
 ∃u v,k v/\(iw a.tmps r).run P w=.ok u w/\RepD w (G.map (·.2)++X0) u v:=by
 have sub:∀{S':List Bx} {M':MM},MS w0 w S' M'->(∀p∈G,M' p.1=M p.1)->∀x∈G.map (·.2)++X0,x∈bl S'++X0:=by
  intro S' M' hms hM x hx;rcases uh.1 hx with hx|hx
  .obtain⟨p,hp,rfl⟩:=iV.1 hx;obtain⟨m,h1,h2,h3,_⟩:=hG p hp;exact yQ _ (iV.2 ⟨_,hms.inS p.1 m ((hM p hp).trans h1) h2 p.2 h3,rfl⟩)
  .exact qP _ hx
 unfold IK at hk;cases r with
 |tmp t =>
  simp only at hk;cases ht:ld t e with
  |none=>simp[ht]at hk
  |some v =>
   simp only[ht]at hk;obtain⟨v',f,S',M',h1,h2,h3,h4,h5⟩:=uN h (h.env t v ht) hk;refine⟨_,v',h1,rfl,h4.ext (Ext.drop (sub h2 λp hp=>h3.same p.1 λhm=>?_))⟩;obtain⟨q,hq,hqe⟩:=iV.1 hm;obtain⟨m,_,_,_,hd⟩:=hG p hp;rcases(h5 q.1 q.2 hq).1 with⟨T,s,es,h6⟩|⟨cs,h6⟩<;>rw[hqe,hd]at h6<;>cases h6
 |cell c t =>
  simp only at hk;split at hk
  .rename_i ti i ht hc;split at hk
   .rename_i cs hb;split at hk
    .rename_i v hv;obtain⟨m,g,hm,hvv,hg,hxe⟩:=(h.env c _ hc).ptr_;obtain⟨m',hm',h1,h2,⟨g',h3⟩,h4⟩:=h.box i _ hb;rw[hm]at hm';cases hm';obtain⟨u,hu,hR⟩:=Xi (M:=M) (bU hτ ht) (Mem.of_row (h.row hm h2 hg)) h4 hv;refine⟨u,v,hk, ?_,(Gj hv hR).ext (Ext.drop (sub h.ms λ_ _=>rfl))⟩;simp only[iw,hxe,asAddr,Sem.run_bind,Sem.run_pure,Result.andThen_ok];rw[hu]
    .cases hk
   .cases hk
  .cases hk
theorem abS{S:List Bx}{M:MM}{a:Act}{w:World}{e:Env}{b:aZ}{G0:List (Nat×Nat)}(hG:∀p∈G0,∃m,M p.1=some m/\m.own=true/\m.g=some p.2/\ld p.1 b=some .dead)(hτ:dQ P τ=true)(h:Sta N w0 X0 S M a w e b){l:List ResultVar}{vs:List (Option AV)}{G:List (Nat×Nat)}
 (hO:OwnR P w (bl S++X0) M a b l vs G):∀{k:List AV->Prop},OO τ e b l vs k->∃us vs',k vs'/\(l.mapM (iw a.tmps)).run P w=.ok us w/\RepFs w (G0.map (·.2)++X0) us vs' (G.map (·.2)):=by
 have sub:∀x∈G0.map (·.2)++X0,x∈bl S++X0:=by
  intro x hx;rcases uh.1 hx with hx|hx
  .obtain⟨p,hp,rfl⟩:=iV.1 hx;obtain⟨m,h1,h2,h3,_⟩:=hG p hp;exact yQ _ (iV.2 ⟨_,h.ms.inS p.1 m h1 h2 p.2 h3,rfl⟩)
  .exact qP _ hx
 have step:∀{r:ResultVar} {l:List ResultVar} {u:Value} {us:List Value},(iw a.tmps r).run P w=.ok u w->(l.mapM (iw a.tmps)).run P w=.ok us w->((r::l).mapM (iw a.tmps)).run P w=.ok (u::us) w:=by
  intro r l u us h1 h2;rw[List.mapM_cons,Sem.run_bind,h1];simp only[Result.andThen_ok,Sem.run_bind,h2,Sem.run_pure]
 induction hO with
 |nil=>intro k hk;exact⟨[],[],hk,η,.nil⟩
 |no t ih =>
  rename_i r l vs G;intro k hk
  have hk:IK τ e b r λv=>OO τ e b l vs λus=>k (v::us):=by
   cases r<;>exact hk
  obtain⟨u,v,h1,h2,h3⟩:=XV hG hτ h hk;obtain⟨us,vs',q1,q2,q3⟩:=ih h1;exact⟨_,_,q1,step h2 q2,.d h3 q3⟩
 |own0 hr hs t ih =>
  intro k hk;simp only[OO]at hk;obtain⟨us,vs',q1,q2,q3⟩:=ih hk;exact⟨_,_,q1,step hr q2,.own0 hs q3⟩
 |own hr hs hg hS hc hm hn hM ho hmg hd hid t ih =>
  intro k hk;simp only[OO]at hk;obtain⟨us,vs',q1,q2,q3⟩:=ih hk;exact⟨_,_,q1,step hr q2,.own hs hg (hS.ext (Ext.drop sub)) hc hm hn q3⟩
theorem afX{B:Nat}{w:World}{us:List Value}{vs:List AV}{G:List Nat}(h:RepFs w (G++X0) us vs G)(hB:∀g∈G,B<=g)(hnd:G.Nodup):RepF B w X0 (if h:us.toArray.size=1 then us.toArray[0]else .tuple us.toArray) (aW vs):=by
 have hlen:us.length=vs.length:=by
  generalize G++X0=XX at h;clear hB hnd;induction h<;>simp_all
 match us,vs,hlen,h with
 |[],[],_,h=>exact⟨[],[],G,.inl ⟨rfl,rfl⟩,hB,hnd,h⟩
 |[u],[v],_,h =>
  refine⟨[u],[v],G,.inr ⟨rfl,rfl, ?_⟩,hB,hnd,h⟩;cases h with
  |d hd _=>exact hd.notTup
  |own0=>rfl
  |own=>rfl
 |u::u'::us,v::v'::vs,_,h=>exact⟨_,_,G,.inl ⟨rfl,rfl⟩,hB,hnd,h⟩
end
section
variable {D:FuncId->List AV->AV->Prop} {τ:Tab}
theorem JG{o:Oper}{e:Env}{b:aZ}{k k':AV->aZ->Prop}(h:∀v f,k v f->k' v f)(hk:bZ D τ o e b k):bZ D τ o e b k':=by
 obtain⟨v,f,h1,h2⟩:=JH hk;exact h2 e b k' ⟨λ_ _=>rfl,λ_ _=>rfl⟩ (h v f h1)
theorem Jj{ids:List Nat}{b:aZ}{p q:Prop}(h:p->q)(hp:NB ids b p):NB ids b q:=by
 cases ids with
 |nil=>exact h hp
 |cons i r =>
  unfold NB at hp ⊢;simp only at hp ⊢;split at hp
  .exact h hp
  .exact hp
theorem FV{O:List Oper}{o:Oper}{e:Env}{b:aZ}{k k':Env->AV->aZ->Lg->Prop}(h:∀e v f l,k e v f l->k' e v f l)(hk:Eb D τ O o e b k):Eb D τ O o e b k':=by
 unfold Eb at hk ⊢;cases hg:o.guard with
 |none=>simp only[hg]at hk;exact Jj (JG (λv f q=>h _ _ _ _ q)) hk
 |some jw =>
  obtain⟨j,want⟩:=jw;simp only[hg]at hk ⊢;cases hs:o9 O j with
  |none=>simp[hs]at hk
  |some t =>
   simp only[hs]at hk ⊢
   have key:∀(q:Bool),(match q == want with
    |true=>NB (qN o) b (bZ D τ o ((t,.bool q)::e) b λv f=>k ((t,.bool q)::e) v f (IX o ((t,.bool q)::e) b v f))
    |false=>k ((t,.bool q)::e) .bad [] ⟨[],[],[],[]⟩)->(match q == want with
    |true=>NB (qN o) b (bZ D τ o ((t,.bool q)::e) b λv f=>k' ((t,.bool q)::e) v f (IX o ((t,.bool q)::e) b v f))
    |false=>k' ((t,.bool q)::e) .bad [] ⟨[],[],[],[]⟩):=by
    intro q hq;cases hw:q == want with
    |true=>rw[hw]at hq;exact Jj (JG (λv f q=>h _ _ _ _ q)) hq
    |false=>rw[hw]at hq;exact h _ _ _ _ hq
   split at hk
   .exact⟨λhp=>key _ (hk.t hp),λhp=>key _ (hk.f hp)⟩
   .exact h _ _ _ _ hk
   .cases hk
theorem FP{O:List Oper}{k k':Env->aZ->Prop}(h:∀e b,k e b->k' e b):∀{l:List Oper} {e:Env} {b:aZ},wo D τ O l e b k->wo D τ O l e b k'
 |[],e,b,hk=>h e b hk
 |o::r,e,b,hk=>by
  simp only[wo,yA,oI]at hk ⊢;exact FV (λe v f l q=>FP h q) hk
theorem F7{O:List Oper}{k k':Env->aZ->List Lg->Prop}(h:∀e b l,k e b l->k' e b l):∀{l:List Oper} {e:Env} {b:aZ} {lg:List Lg},Ez D τ O l e b lg k->Ez D τ O l e b lg k'
 |[],e,b,lg,hk=>h e b lg hk
 |o::r,e,b,lg,hk=>by
  simp only[Ez,NY,oI]at hk ⊢;exact FV (λe v f l q=>F7 h q) hk
theorem Fg{dr:Bool}{O:List Oper}{e:Env}{b:aZ}{k k':Env->aZ->Prop}(h:∀e b,k e b->k' e b)(hk:Ee D τ dr O e b k):Ee D τ dr O e b k':=by
 cases dr with
 |false=>exact FP h hk
 |true =>
  simp only[Ee,CY]at hk ⊢;exact Jj (F7 λe b l q=>⟨q.ok,h e b q.k⟩) hk
theorem nV:∀(c:Code) {Q Q':Ex->Env->aZ->Prop} {e:Env} {b:aZ},(∀z e b,Q z e b->Q' z e b)->nH D τ c Q e b->nH D τ c Q' e b
 |.skip,Q,Q',e,b,h,hk=>h _ _ _ hk
 |.ret,Q,Q',e,b,h,hk=>h _ _ _ hk
 |.exit id,Q,Q',e,b,h,hk=>h _ _ _ hk
 |.region id ops dr,Q,Q',e,b,h,hk=>by
  simp only[nH]at hk ⊢;split at hk
  .exact Fg (h .normal) hk
  .obtain⟨v,f,h1,h2⟩:=jD hk;exact h2 b _ (λ_ _=>rfl) (Fg (h .normal) h1)
 |.seq x y,Q,Q',e,b,h,hk=>nV x (λz e b q=>by cases z<;>first|exact nV y h q|exact h _ _ _ q) hk
 |.cond c x y,Q,Q',e,b,h,hk=>by
  simp only[nH]at hk ⊢;split at hk
  .rename_i p hp;refine⟨λh1=>?_,λh1=>?_⟩
   .exact nV x h (hk.t h1)
   .exact nV y h (hk.f h1)
  .cases hk
 |.block id x,Q,Q',e,b,h,hk=>nV x (λz e b q=>by
  cases z with
  |normal=>exact h _ _ _ q
  |ret=>exact h _ _ _ q
  |exit i =>
   simp only at q ⊢;cases hi:Nat.beq i id with
   |true=>rw[hi]at q;exact h _ _ _ q
   |false=>rw[hi]at q;exact h _ _ _ q) hk
 |.loop x,Q,Q',e,b,h,hk=>⟨λI h1 h2 h3=>hk.wl I (λe b hF=>h1 e b (nV x (λz e b q=>by cases z<;>first|exact q|exact h _ _ _ q) hF)) h2 h3⟩
 |.rangeFunc _ _ _ _,Q,Q',e,b,h,hk=>False.elim hk
 |.scope _,Q,Q',e,b,h,hk=>False.elim hk
 |.label _,Q,Q',e,b,h,hk=>False.elim hk
 |.goto _,Q,Q',e,b,h,hk=>False.elim hk
 |.refuse _,Q,Q',e,b,h,hk=>False.elim hk
variable {x:Code} {Q:Ex->Env->aZ->Prop} {e:Env} {b:aZ}
theorem Loop.unroll(h:nH D τ x (λz e b=>match z with|.normal=>Loop (nH D τ x) Q e b|z=>Q z e b) e b):Loop (nH D τ x) Q e b :=
 ⟨λI h1 h2 h3=>h1 e b (nV x (λz e b q=>by cases z<;>first|exact q.wl I h1 h2 h3|exact q) h)⟩
theorem Loop.ghost(t i T s:Nat)(h:Loop (nH D τ x) Q ((t,.gs i 0)::e) ((i,.grow T s [])::b))(h1:ld t e=some (.c (.v (.slice none 0 0))))(h2:mention [i] e=false)(h3:ld i b=none)(h4:0<s)(h5:jE [i] b=false:=by rfl):Loop (nH D τ x) Q e b :=
 ⟨λI k1 k2 k3=>k3 e b t i T s (h.wl I k1 k2 k3) h1 h2 h3 h4 h5⟩
structure Again {α:Type} (E:α->Env) (B:α->aZ) (p:α->Prop) (μ:α->Nat) (n:Nat) (e:Env) (b:aZ) (y:α):Prop where
 e:SubE (E y) e
 b:SubB (B y) b
 p:p y
 lt:μ y<n
theorem Loop.inv{α:Type}(E:α->Env)(B:α->aZ)(p:α->Prop)(μ:α->Nat)(x0:α)(he:SubE (E x0) e)(hb:SubB (B x0) b)(hp:p x0)
 (step:∀y,p y->nH D τ x (λz e b=>match z with|.normal=>∃y',Again E B p μ (μ y) e b y'|z=>Q z e b) (E y) (B y)):Loop (nH D τ x) Q e b:=by
 refine⟨λI h1 h2 h3=>h2 _ _ _ _ ?_ he hb⟩
 have key:∀n y,μ y=n->p y->I (E y) (B y):=by
  intro n;induction n using Nat.strongRecOn with
  |_ n ih =>
   intro y hn hy;refine h1 _ _ (nV x (λz e b q=>?_) (step y hy));cases z with
   |normal =>
    obtain⟨y',q1,q2,q3,q4⟩:=q;exact h2 _ _ _ _ (ih (μ y') ω y' rfl q3) q1 q2
   |ret=>exact q
   |exit id=>exact q
 exact key _ x0 rfl hp
end
class DenI (P:Program) [Wld P] (f:FuncId) (xs:List AV) (pre:outParam Prop) (r:outParam AV):Prop where
 den:pre->Den P f xs r
structure Pr (p:Prop):Prop where
 p:p
theorem zab:type_of% @Pr.mk:=@Pr.mk
section
variable {P:Program} [Wld P]
theorem ak{f:FuncId}{xs:List AV}{pre:Prop}{r:AV}{k:AV->Prop}[h:DenI P f xs pre r](hp:Pr pre)(hk:k r):CallP (Den P) f xs k:=⟨r,h.den hp.p,hk⟩
theorem aC{f:FuncId}{xs:List AV}{r:AV}{k:AV->Prop}[h:DenI P f xs True r](hk:k r):CallP (Den P) f xs k:=⟨r,h.den trivial,hk⟩
theorem aK{p k:Prop}(hp:Pr p)(hk:k):Obl p k:=⟨hp.p,hk⟩
theorem aN{k:Bool->Prop}(h:k true):OnB true k:=⟨λ_=>h,λh=>Bool.noConfusion h⟩
theorem aI{k:Bool->Prop}(h:k false):OnB false k:=⟨λh=>Bool.noConfusion h,λ_=>h⟩
theorem aO{p:Prop}[Decidable p]{k:Bool->Prop}(ht:p->k true)(hf:¬p->k false):OnB (decide p) k:=⟨λh=>ht (of_decide_eq_true h),λh=>hf (of_decide_eq_false h)⟩
theorem aP{p:Prop}[Decidable p]{k:Bool->Prop}(ht:¬p->k true)(hf:p->k false):OnB (!decide p) k:=⟨λh=>ht (by simpa using h),λh=>hf (by simpa using h)⟩
end
@[reducible] def dB(l:List Nat):Cell:=.sl 1 (l.map λx=>[.v (u32 x)])
@[reducible] def zs(n:Int):Cell:=.v (.bool (decide (n<0)))
@[reducible] def zl(n:Int):Cell:=dB (lim n.natAbs)
@[reducible] def Z(n:Int):AV:=.agg [zs n,zl n]
@[reducible] def R(q:Rat):AV:=.agg [zs q.num,zl q.num,zs q.den,zl q.den]
theorem QT(l:List Nat):(l.map λx=>[u32 x]).flatten=us l:=by
 induction l with
 |nil=>rfl
 |cons x r ih=>simp[us]at ih ⊢;exact ih
theorem LU{w:World}{X:List Nat}:∀{l:List Nat} {uss:List (List Value)},RepS w X 1 uss (l.map λx=>[.v (u32 x)])->uss=l.map λx=>[u32 x]
 |[],uss,h=>UR (by simpa using h.len)
 |x::l,uss,h=>by
  cases uss with
  |nil=>have:=h.len;simp at this
  |cons us r =>
   have h0:=h.get 0 us [.v (u32 x)] rfl rfl;obtain⟨u,r',rfl,h1,h2⟩:=h0.inv;have hr':r'=[]:=UR (by simpa using h2.len);subst hr';cases h1;have ih:=LU (w:=w) (X:=X) (l:=l) (uss:=r) ⟨by simpa using h.len,λus hu=>h.sz us (by simp[hu]),λi us e a b=>h.get (i+1) us e (by simpa using a) (by simpa using b)⟩;rw[ih];rfl
theorem UL.of_rep{w:World}{X:List Nat}{u:Value}{l:List Nat}(h:RepC w X u (dB l)):UL w X u l:=by
 obtain⟨A,cap,uss,rfl,h1,h2,h3,h4⟩:=RepS.of_sl h;have:=LU h4;subst this;rw[QT]at h3;exact⟨A,_,cap,rfl,η,h3,by simpa using h1,h2⟩
theorem UL.rep{w:World}{X:List Nat}{u:Value}{l:List Nat}(h:UL w X u l):RepC w X u (dB l):=by
 obtain⟨A,n,c,rfl,rfl,h1,h2,h3⟩:=h
 have hS:RepS w X 1 (l.map λx=>[u32 x]) (l.map λx=>[.v (u32 x)]):=by
  refine⟨η,λus hu=>?_,λi us e a b=>?_⟩
  .obtain⟨x,_,rfl⟩:=iV.1 hu;rfl
  .rw[MQ]at a b;cases hx:l[i]? with
   |none=>simp[hx]at a
   |some x =>
    simp[hx]at a b;subst a b;exact .cons (.v _ rfl) (.nil _ _)
 have:=hS.sl (A:=A) (cap:=c) (by rw[QT];exact h1) (by simpa using h2) h3;simpa using this
theorem aJ{l c:Int}{by_:Nat}{k:Nat->Prop}(hp:Pr (0<=l/\l<=c/\c*(by_+1)<=140737488355328))(hk:k l.toNat):MkS l c by_ k:=by
 obtain⟨⟨h1,h2,h3⟩⟩:=hp;refine⟨l.toNat,c.toNat,ω,ω,ω, ?_,hk⟩
 have:((c.toNat * (by_+1):Nat):Int)<=140737488355328:=by
  rw[WR,Int.toNat_of_nonneg ω,Int.natCast_add];exact h3
 omega
theorem aH{n:Nat}{lo hi mx:Option Int}{k:Nat->Nat->Prop}(hp:Pr (0<=lo.getD 0/\lo.getD 0<=hi.getD n/\hi.getD n<=mx.getD n/\mx.getD n<=n/\(mx.isSome=true->hi.isSome=true)))(hk:k (lo.getD 0).toNat (hi.getD n).toNat):SlP n lo hi mx k:=by
 obtain⟨⟨h1,h2,h3,h4,h5⟩⟩:=hp;exact⟨_,_,(mx.getD n).toNat,ω,ω,ω,ω,ω,ω,h5,hk⟩
theorem aT{M:Type}(d:M){f:M->List Cell}{l:List M}{i:Int}{k:List Cell->Prop}(hp:Pr (0<=i/\i<l.length))(hk:k (f (l.getD i.toNat d))):Elem (l.map f) i k:=by
 obtain⟨⟨h1,h2⟩⟩:=hp;have hlt:i.toNat<l.length:=ω
 refine⟨i.toNat,_,ω, ?_,hk⟩;simp[List.getD,hlt]
theorem au{l:List Nat}{i:Int}{k:List Cell->Prop}(hp:Pr (0<=i/\i<l.length))(hk:k [.v (u32 (l.getD i.toNat 0))]):Elem (l.map λx=>[.v (u32 x)]) i k:=aT 0 hp hk
theorem aj{e:List Cell}{es:List (List Cell)}{k:List Cell->Prop}(hk:k e):Elem (e::es) 0 k:=⟨0,e,rfl,rfl,hk⟩
theorem aF{e e':List Cell}{es:List (List Cell)}{k:List Cell->Prop}(hk:k e'):Elem (e::e'::es) 1 k:=⟨1,e',rfl,rfl,hk⟩
section
variable {P:Program} [Wld P] {f:FuncId} {r:AV}
def RR(P:Program)(f:FuncId)(vs:Array Value)(w:World)(X:List Nat)(r:AV):Prop:=Calls P f vs w (Ar λu w'=>RepR w' X u r/\Below w.heap.size w w')
theorem RR.den{vs:Array Value}{w:World}{X:List Nat}(h:RR P f vs w X r):Calls P f vs w (Ar λu w'=>RepF w.heap.size w' X u r/\Below w.heap.size w w') :=
 h.mono λe w' ⟨u,he,hi,hb⟩=>⟨u,he,hi.f,hb⟩
theorem ajC{x y:AV}(hb:fE P f=true)(h:∀(w:World) (X:List Nat) (u v:Value),(∀m∈X,m<w.heap.size)->RepD w X u x->RepD w X v y->RR P f #[u,v] w X r)(hn:mG [x,y]=true:=by rfl):Den P f [x,y] r :=
 Den.of ⟨hb,λw X vs _ hX hl hr=>by
  obtain⟨u,v,rfl⟩:∃u v,vs=[u,v]:=by
   match vs,hl with
   |[u,v],_=>exact⟨u,v,rfl⟩
  exact RR.den (h w X u v hX (hr 0 u x rfl rfl) (hr 1 v y rfl rfl))⟩ hn
theorem RepD.ul{w:World}{X:List Nat}{l:List Nat}{u:Value}(h:RepD w X u (.c (dB l))):UL w X u l:=by
 cases h with
 |c h=>exact UL.of_rep h
theorem alF{w:World}{X:List Nat}{u v:Value}{x y:AV}(h:RepD w X u x)(k:RepD w X v y):RepR w X (.tuple #[u,v]) (.tup [x,y]) :=
 .tup (us:=[u,v]) rfl λi a b ha hb=>by
  match i,ha,hb with
  |0,ha,hb=>simp at ha hb;subst ha hb;exact h
  |1,ha,hb=>simp at ha hb;subst ha hb;exact k
end
open Go.ChangeShapes Go.WideShapes Go.ChangeAt Go.Joins Go.Deep
inductive TS where
 |int (k:IntKind)
 |bool
 |str
 |slice (e:TS)
 |nil
 |cons (a b:TS)
def TS.n:TS->Nat
 |.int _=>1
 |.bool=>1
 |.str=>1
 |.slice _=>1
 |.nil=>0
 |.cons a b=>a.n+b.n
def TS.one:TS->Bool
 |.nil=>false
 |.cons _ _=>false
 |_=>true
def Fit:TS->List Cell->Prop
 |.int k,cs=>∃n,(Lit.int k n).wf=true/\cs=[.v (.int k n)]
 |.bool,cs=>∃b,cs=[.v (.bool b)]
 |.str,cs=>∃s,s.size<=maxLen/\cs=[.v (.string s)]
 |.slice e,cs=>∃es,es.length<=maxLen/\(∀x∈es,Fit e x)/\cs=[.sl e.n es]
 |.nil,cs=>cs=[]
 |.cons a b,cs=>∃x y,Fit a x/\Fit b y/\cs=x++y
theorem Fit.len:∀{T:TS} {cs:List Cell},Fit T cs->cs.length=T.n
 |.int _,_,⟨_,_,h⟩=>by subst h;rfl
 |.bool,_,⟨_,h⟩=>by subst h;rfl
 |.str,_,⟨_,_,h⟩=>by subst h;rfl
 |.slice _,_,⟨_,_,_,h⟩=>by subst h;rfl
 |.nil,_,h=>by rw[show _=[]from h];rfl
 |.cons a b,_,⟨x,y,h1,h2,h⟩=>by subst h;simp[TS.n,Fit.len h1,Fit.len h2]
def QG(P:Program):Nat->List Field->Bool
 |_,[]=>true
 |o,f::r=>decide (f.offset=o)&&QG P (o+P.cellsOf f.type) r
def xk(P:Program)(t:TypeId):Option (List TypeId) :=
 match P.underlying t with
 |some (.struct fs)=>if QG P 0 fs.toList&&Nat.beq (P.cellsOf t) (fs.toList.map λf=>P.cellsOf f.type).sum then some (fs.toList.map (·.type))else none
 |some (.array n e)=>if Nat.beq (P.cellsOf t) (n*P.cellsOf e)then some (List.replicate n e)else none
 |_=>none
def lK(P:Program):TS->TypeId ⊕ List TypeId->Bool
 |.int k,.inl t=>(match P.underlying t with|some (.int k')=>decide (k'=k)|_=>false)
 |.bool,.inl t=>(match P.underlying t with|some .bool=>true|_=>false)
 |.str,.inl t=>(match P.underlying t with|some .string=>true|_=>false)
 |.slice e,.inl t=>(match P.underlying t with|some (.slice u)=>lK P e (.inl u)&&Nat.beq (P.cellsOf u) e.n&&Nat.blt 0 e.n|_=>false)
 |.nil,.inl t=>(match xk P t with|some []=>true|_=>false)
 |.cons a b,.inl t=>(match xk P t with|some (u::us)=>lK P a (.inl u)&&lK P b (.inr us)|_=>false)
 |.nil,.inr []=>true
 |.cons a b,.inr (u::us)=>lK P a (.inl u)&&lK P b (.inr us)
 |_,_=>false
section
variable {P:Program} {H:Type} {enc:TypeId × Value->H} {w:World}
def MK(enc:TypeId×Value->H)(P:Program)(w:World):List TypeId->List Value->Prop
 |[],cs=>cs=[]
 |t::ts,cs=>∃a b fuel x,cs=a++b/\DataW.trod enc P w 0 (λ_=>true) true fuel t a=some x/\MK enc P w ts b
theorem yJ{fuel:Nat}:∀(fs:List Field) (o:Nat) (cs:List Value),QG P o fs=true->cs.length=o+(fs.map λf=>P.cellsOf f.type).sum ->
 (∀f∈fs,∃x,DataW.trod enc P w 0 (λ_=>true) true fuel f.type ((cs.drop f.offset).take (P.cellsOf f.type))=some x)->MK enc P w (fs.map (·.type)) (cs.drop o)
 |[],o,cs,_,hl,_=>by
  simp only[List.map_nil,List.sum_nil,Nat.add_zero]at hl;exact List.drop_eq_nil_of_le ω
 |f::r,o,cs,hr,hl,h=>by
  simp only[QG,gX,decide_eq_true_eq]at hr;obtain⟨rfl,h2⟩:=hr;obtain⟨x,hx⟩:=h f η;refine⟨_,_,fuel,x, ?_,hx,yJ r (f.offset+P.cellsOf f.type) cs h2 (by simp only[xZ,List.sum_cons]at hl;omega) λg hg=>h g (by simp[hg])⟩;rw[<-MR,RP]
theorem Ci{fuel:Nat}{e:TypeId}:∀(n o:Nat) (cs:List Value),cs.length=(o+n)*P.cellsOf e ->
 (∀i,i<n->∃x,DataW.trod enc P w 0 (λ_=>true) true fuel e ((cs.drop ((o+i)*P.cellsOf e)).take (P.cellsOf e))=some x)->MK enc P w (List.replicate n e) (cs.drop (o*P.cellsOf e))
 |0,o,cs,hl,_=>by
  exact List.drop_eq_nil_of_le (by rw[hl];simp)
 |n+1,o,cs,hl,h=>by
  obtain⟨x,hx⟩:=h 0 ω
  have:=Ci n (o+1) cs (by rw[hl];congr 1;omega) λi hi=>by
   obtain⟨x,hx⟩:=h (i+1) ω;refine⟨x, ?_⟩;rw[show o+1+i=o+(i+1) by omega];exact hx
  refine⟨_,_,fuel,x, ?_,hx,this⟩;rw[Nat.add_zero,UY,<-MR,RP]
theorem Ji{a:Addr}{v:Value}(h:w.cell? a=some v):a.block<w.heap.size:=by
 unfold World.cell? at h;rcases Ju a.block w.heap.size with h1|h1
 .exact h1
 .have:w.heap[a.block]?=none:=by simp[h1]
  rw[this]at h;simp at h
theorem cells?_mem{base n:Nat}{a:Addr}{us:List Value}(h:w.cells? base a n=some us):us.length=n/\∀(j:Nat) u,us[j]?=some u->w.cell? (a.add j)=some u:=by
 unfold World.cells? at h;split at h
 .refine⟨by simpa using mapM_some_length h,λj u hu=>?_⟩;have hj:j<n:=by have:=(qG.1 hu).1;have:=mapM_some_length h;simp at this;omega
  have:=mapM_some_get h j j (by simp[hj]);rw[this,hu]
 .cases h
theorem FX{α:Type}{Q:Nat->α->Prop}:∀{n:Nat},(∀i,i<n->∃x,Q i x)->∃l:List α,l.length=n/\∀(i:Nat) x,l[i]?=some x->Q i x
 |0,_=>⟨[],rfl,λi x h=>by simp at h⟩
 |n+1,h=>by
  obtain⟨l,h1,h2⟩:=FX (n:=n) (Q:=Q) λi hi=>h i ω
  obtain⟨x,hx⟩:=h n ω;refine⟨l++[x],by simp[h1],λi y hy=>?_⟩;rcases Ju i n with hi|hi
  .rw[UA ω]at hy;exact h2 i y hy
  .rw[ZA ω]at hy
   have:i=n:=by
    have:=(qG.1 hy).1;simp at this;omega
   subst this;simp[h1]at hy;subst hy;exact hx
theorem KY{t:TypeId}{ts:List TypeId}{fuel:Nat}{cs:List Value}{x:DataW H×List MemPlace}(hk:xk P t=some ts)(h:DataW.trod enc P w 0 (λ_=>true) true fuel t cs=some x):MK enc P w ts cs:=by
 unfold xk at hk;split at hk
 .rename_i fs hu;split at hk
  .rename_i hc;injection hk with hk
   subst hk;simp only[gX]at hc;obtain⟨xs,n,_,_,h2,h3,h4⟩:=DataW.trod_struct hu h
   have:=yJ (enc:=enc) (P:=P) (w:=w) (fuel:=n) fs.toList 0 cs hc.1 (by rw[h2,jX hc.2,uY]) λf hf=>by
    obtain⟨i,hi⟩:=List.getElem?_of_mem hf;have hi':i<fs.size:=by have:=(qG.1 hi).1;simpa using this
    have:=h4 i f (by simpa using hi);rw[this];exact⟨_,pW ω⟩
   simpa using this
  .cases hk
 .rename_i n e hu;split at hk
  .rename_i hc;injection hk with hk
   subst hk;obtain⟨xs,m,_,_,h2,h3,h4⟩:=DataW.trod_array hu h
   have:=Ci (enc:=enc) (P:=P) (w:=w) (fuel:=m) (e:=e) n 0 cs (by rw[h2,jX hc,uY]) λi hi=>by
    have:=h4 i hi;rw[uY,this];exact⟨_,pW ω⟩
   simpa using this
  .cases hk
 .cases hk
theorem rH:∀(T:TS),(∀t,lK P T (.inl t)=true->∀fuel cs x,DataW.trod enc P w 0 (λ_=>true) true fuel t cs=some x->∃cl,Fit T cl/\RepL w [] cs cl) /\
 (∀ts,lK P T (.inr ts)=true->∀cs,MK enc P w ts cs->∃cl,Fit T cl/\RepL w [] cs cl)
 |.int k=>⟨λt ht fuel cs x h=>(by
  simp only[lK]at ht;split at ht
  .rename_i k' hu;have:=of_decide_eq_true ht;subst this;obtain⟨n,rfl,h1,h2⟩:=DataW.trod_int hu h
   first
    |exact⟨[.v (.int k' n)],⟨n,h1,rfl⟩,.cons (.v _ rfl) (.nil _ _)⟩|exact⟨[.v (.int k' n)],⟨n,h2,rfl⟩,.cons (.v _ rfl) (.nil _ _)⟩
  .cases ht),λts ht=>by simp[lK]at ht⟩
 |.bool=>⟨λt ht fuel cs x h=>(by
  simp only[lK]at ht;split at ht
  .rename_i hu;obtain⟨b,rfl,_⟩:=DataW.trod_bool hu h;exact⟨[.v (.bool b)],⟨b,rfl⟩,.cons (.v _ rfl) (.nil _ _)⟩
  .cases ht),λts ht=>by simp[lK]at ht⟩
 |.str=>⟨λt ht fuel cs x h=>(by
  simp only[lK]at ht;split at ht
  .rename_i hu;obtain⟨s,rfl,h1,h2⟩:=DataW.trod_string hu h
   first
    |exact⟨[.v (.string s)],⟨s,h1,rfl⟩,.cons (.v _ rfl) (.nil _ _)⟩|exact⟨[.v (.string s)],⟨s,h2,rfl⟩,.cons (.v _ rfl) (.nil _ _)⟩
  .cases ht),λts ht=>by simp[lK]at ht⟩
 |.slice e=>⟨λt ht fuel cs x h=>(by
  simp only[lK]at ht;split at ht
  .rename_i u hu;simp only[gX]at ht;obtain⟨⟨h1,h2⟩,h3⟩:=ht;have h2:=jX h2;have h3:0<e.n:=by simpa[I7]using h3
   rcases DataW.trod_slice hu h with⟨rfl,_⟩|⟨a,len,cap,elems,rest,n,rfl,rfl,_,_,hl,hc,hlen,hel,_,_⟩
   .exact⟨[.sl e.n []],⟨[],η,λx hx=>by simp at hx,rfl⟩,.cons (.nil _ _ _) (.nil _ _)⟩
   .have ex:∀i,i<len->∃q:List Value×List Cell,Fit e q.2/\RepL w [] q.1 q.2/\∀(j:Nat) v,q.1[j]?=some v->w.cell? ((a.add (i*e.n)).add j)=some v:=λi hi=>by
     have hE:=hel i hi;have hi':i<elems.length:=ω
     rw[pW hi',h2]at hE;simp only[Option.bind_eq_some_iff]at hE;obtain⟨us,hus,htr⟩:=hE;obtain⟨cl,f1,f2⟩:=(rH e).1 u h1 _ _ _ htr;exact⟨(us,cl),f1,f2,(cells?_mem hus).2⟩
    obtain⟨l,l1,l2⟩:=FX ex
    have hS:RepS w [] e.n (l.map (·.1)) (l.map (·.2)):=by
     refine⟨η,λus hus=>?_,λi us x hi hx=>?_⟩
     .obtain⟨q,hq,rfl⟩:=iV.1 hus;obtain⟨i,hi⟩:=List.getElem?_of_mem hq;have:=l2 i q hi;rw[this.2.1.len];exact this.1.len
     .rw[MQ]at hi hx;cases hq:l[i]? with
      |none=>rw[hq]at hi;cases hi
      |some q =>
       rw[hq]at hi hx;simp at hi hx;subst hi hx;exact(l2 i q hq).2.1
    have hCl:Cl w [] (some a) (l.map (·.1)).flatten:=λhne=>by
     have fl:∀(q:Nat) v,(l.map (·.1)).flatten[q]?=some v->w.cell? (a.add q)=some v:=λq v hv=>by
      have hq:q<l.length*e.n:=by
       have:=(qG.1 hv).1
       rwa [fC hS.sz,bW]at this
      have hi:q/e.n<l.length:=Nat.div_lt_of_lt_mul (by rw[Gx];exact hq);have hj:q%e.n<e.n:=qx _ h3;have e1:q/e.n*e.n+q%e.n=q:=by rw[Gx];exact Nat.div_add_mod _ _
      have:=iZ hS.sz (i:=q/e.n) (us:=(l[q/e.n]).1) (by rw[MQ,pW hi];rfl) (q%e.n) hj;rw[e1,hv]at this;have:=(l2 _ _ (pW hi)).2.2 _ _ this.symm
      rwa [add_add',e1]at this
     have hpos:0<(l.map (·.1)).flatten.length:=List.length_pos_iff.2 hne;have h0:=fl 0 _ (pW hpos);have hb:=Ji h0;rw[block_add]at hb;exact⟨a,rfl,hb,η,fl⟩
    refine⟨[.sl e.n (l.map (·.2))],⟨_,κ,λx hx=>?_,rfl⟩,.cons ?_ (.nil _ _)⟩
    .obtain⟨q,hq,rfl⟩:=iV.1 hx;obtain⟨i,hi⟩:=List.getElem?_of_mem hq;exact(l2 i q hi).1
    .have:=hS.sl hCl (cap:=cap) κ hc;simp only[bW,l1]at this;exact this
  .cases ht),λts ht=>by simp[lK]at ht⟩
 |.nil=>⟨λt ht fuel cs x h=>(by
  simp only[lK]at ht
  have hk:xk P t=some []:=by
   split at ht
   .assumption
   .cases ht
  have:=KY hk h;rw[show cs=[]from this]
  exact⟨[],rfl,.nil _ _⟩),λts ht cs h=>by
  cases ts with
  |nil=>rw[show cs=[]from h];exact⟨[],rfl,.nil _ _⟩
  |cons _ _=>simp[lK]at ht⟩
 |.cons a b=>⟨λt ht fuel cs x h=>(by
  simp only[lK]at ht;split at ht
  .rename_i u us hk;simp only[gX]at ht;obtain⟨c1,c2,fuel',x',rfl,h1,h2⟩:=KY hk h;obtain⟨l1,f1,r1⟩:=(rH a).1 u ht.1 _ _ _ h1;obtain⟨l2,f2,r2⟩:=(rH b).2 us ht.2 _ h2;exact⟨_,⟨l1,l2,f1,f2,rfl⟩,r1.append r2⟩
  .cases ht),λts ht cs h=>by
  cases ts with
  |nil=>simp[lK]at ht
  |cons u us =>
   simp only[lK,gX]at ht;obtain⟨c1,c2,fuel',x',rfl,h1,h2⟩:=h;obtain⟨l1,f1,r1⟩:=(rH a).1 u ht.1 _ _ _ h1;obtain⟨l2,f2,r2⟩:=(rH b).2 us ht.2 _ h2
   exact⟨_,⟨l1,l2,f1,f2,rfl⟩,r1.append r2⟩⟩
theorem Ns{T:TS}{t:TypeId}{r:Reach}{b0:Nat}{v:Value}(h1:T.one=true)(ht:lK P T (.inl t)=true)(hv:Value.okWide P w r b0 t v):v.cells = #[v]:=by
 cases T with
 |nil=>cases h1
 |cons _ _=>cases h1
 |int k =>
  simp only[lK]at ht;split at ht
  .rename_i k' hu;simp only[Value.okWide,hu,Cell.okWide,Cell.ok]at hv;cases v<;>first|rfl|exact False.elim hv
  .cases ht
 |bool =>
  simp only[lK]at ht;split at ht
  .rename_i hu;simp only[Value.okWide,hu,Cell.okWide,Cell.ok]at hv;cases v<;>first|rfl|exact False.elim hv
  .cases ht
 |str =>
  simp only[lK]at ht;split at ht
  .rename_i hu;simp only[Value.okWide,hu,Cell.okWide,Cell.ok]at hv;cases v<;>first|rfl|exact False.elim hv
  .cases ht
 |slice e =>
  simp only[lK]at ht;split at ht
  .rename_i u hu;simp only[Value.okWide,hu,Cell.okWide,Cell.ok]at hv;cases v<;>first|rfl|exact False.elim hv
  .cases ht
def aaN(T:TS)(x:AV):Prop:=match T.one with
 |true=>∃c,Fit T [c]/\x=.c c
 |false=>∃cl,Fit T cl/\x=.agg cl
theorem V3{T:TS}{t:TypeId}{r:Reach}{b0:Nat}{v:Value}{d:DataW H}{p:List MemPlace}(ht:lK P T (.inl t)=true)(hv:Value.okWide P w r b0 t v)(h:DataW.Trod enc P w 0 (λ_=>true) true t v d p):∃x,aaN T x/\RepD w [] v x:=by
 obtain⟨fuel,h⟩:=h;obtain⟨cl,h1,h2⟩:=(rH T).1 t ht _ _ _ h;cases h3:T.one with
 |true =>
  have hc:=Ns h3 ht hv;have hl:=h1.len;have hl1:T.n=1:=by cases T<;>first|rfl|cases h3
  rw[hc]at h2
  match cl,hl,h2 with
  |[c],_,h2 =>
   obtain⟨u,r',he,h5,_⟩:=h2.inv;simp at he;obtain⟨rfl,_⟩:=he;exact⟨.c c,by unfold aaN;rw[h3];exact⟨c,h1,rfl⟩,.c h5⟩
  |[],hl,_=>rw[hl1]at hl;simp at hl
  |_::_::_,hl,_=>rw[hl1]at hl;simp at hl
 |false =>
  have ha:∃cs,v=.agg cs:=by
   have hk:(xk P t).isSome=true:=by
    cases T with
    |nil=>simp only[lK]at ht;split at ht;rename_i hk;rw[hk];rfl;cases ht
    |cons a b=>simp only[lK]at ht;split at ht;rename_i hk;rw[hk];rfl;cases ht
    |int _=>cases h3
    |bool=>cases h3
    |str=>cases h3
    |slice _=>cases h3
   unfold xk at hk;unfold Value.okWide at hv;split at hk
   .rename_i hu;rw[hu]at hv;exact⟨_,hv.choose_spec.1⟩
   .rename_i hu;rw[hu]at hv;exact⟨_,hv.choose_spec.1⟩
   .cases hk
  obtain⟨cs,rfl⟩:=ha;refine⟨.agg cl,by unfold aaN;rw[h3];exact⟨cl,h1,rfl⟩, ?_⟩;have:RepD w [] (.agg cs.toList.toArray) (.agg cl):=.agg h2;simpa using this
def QW:List TS->List AV->Prop
 |[],xs=>xs=[]
 |T::Ts,xs=>∃x r,aaN T x/\QW Ts r/\xs=x::r
def Gz(P:Program):List TS->List TypeId->Bool
 |[],[]=>true
 |T::Ts,t::ts=>lK P T (.inl t)&&Gz P Ts ts
 |_,_=>false
theorem FU{r:Reach}{b0:Nat}:∀{Ts:List TS} {ts:List TypeId} {vs:List Value} {ds:List (DataW H)} {p:List MemPlace},Gz P Ts ts=true->(∀(j:Nat) t v,ts[j]?=some t->vs[j]?=some v->Value.okWide P w r b0 t v) ->
 DataW.TrodAll enc P w 0 (λ_=>true) true ts vs ds p->∃xs,QW Ts xs/\vs.length=xs.length/\∀(i:Nat) u v,vs[i]?=some u->xs[i]?=some v->RepD w [] u v
 |[],[],vs,ds,p,_,_,h=>by
  match vs,ds,h with
  |[],[],_=>exact⟨[],rfl,rfl,λi u v h=>by simp at h⟩
 |T::Ts,t::ts,vs,ds,p,hk,hv,h=>by
  simp only[Gz,gX]at hk
  match vs,ds,h with
  |v::vs,d::ds,⟨p1,p2,h1,h2,_⟩ =>
   obtain⟨x,f1,r1⟩:=V3 hk.1 (hv 0 t v rfl rfl) h1;obtain⟨xs,f2,l2,r2⟩:=FU hk.2 (λj t v a b=>hv (j+1) t v (by simpa using a) (by simpa using b)) h2
   exact⟨x::xs,⟨x,xs,f1,f2,rfl⟩,by simp[l2],λi u y a b=>by
    cases i with
    |zero=>simp at a b;subst a b;exact r1
    |succ i=>exact r2 i u y (by simpa using a) (by simpa using b)⟩
 |[],_::_,_,_,_,hk,_,_=>by simp[Gz]at hk
 |_::_,[],_,_,_,hk,_,_=>by simp[Gz]at hk
theorem Uj{w:World}{X:List Nat}{u:Value}{b:Bool}(h:RepR w X u (.bool b)):u=.bool b:=by
 generalize hv:AV.bool b=v at h;cases h with
 |d h =>
  cases h with
  |c h =>
   injection hv with hv
   subst hv;generalize hc:Cell.v (.bool b)=c at h;cases h with
   |v _ _=>injection hc with hc;exact hc.symm
   |sl=>cases hc
   |p=>cases hc
   |fn=>cases hc
  |agg h=>cases hv
 |tup _ _=>cases hv
def readAll(P:Program)(ts:List TypeId):Bool:=ts.all λt=>P.readableRec t&&Nat.blt t P.types.size
theorem wK{W W':World}(hl:laidOutB P=true)(hb:Below W.heap.size W W'):∀{ts:List TypeId} {vs:List Value} {ds:List (DataW H)} {p:List MemPlace},readAll P ts=true->(∀x∈p,x.block<W.heap.size)->DataW.TrodAll enc P W 0 (λ_=>true) true ts vs ds p ->
 DataW.TrodAll enc P W' 0 (λb=>decide (b<W.heap.size)) true ts vs ds p
 |[],[],[],p,_,_,h=>h
 |t::ts,v::vs,d::ds,p,hr,hlt,h=>by
  obtain⟨p1,p2,h1,h2,rfl⟩:=h;simp only[readAll,List.all_cons,gX]at hr;exact⟨p1,p2,Below.trod hl hr.1.1 (by simpa[I7]using hr.1.2) h1 hb (λx hx=>hlt x (uh.2 (.inl hx))),wK hl hb (ts:=ts) hr.2 (λx hx=>hlt x (uh.2 (.inr hx))) h2,rfl⟩
 |[],_::_,_,_,_,_,h=>h.elim
 |[],[],_::_,_,_,_,h=>h.elim
 |_::_,[],_,_,_,_,h=>h.elim
 |_::_,_::_,[],_,_,_,h=>h.elim
theorem ZU[Wld P]{f:FuncId}{Ts:List TS}{ts:List TypeId}{args:Array Value}{ds:List (DataW H)}{p:List MemPlace}{r:Reach}{b0:Nat}(hk:Gz P Ts ts=true)(hden:∀xs,QW Ts xs->Den P f xs (.bool true))
 (hv:∀(j:Nat) t v,ts[j]?=some t->args.toList[j]?=some v->Value.okWide P w r b0 t v) (h:DataW.TrodAll enc P w 0 (λ_=>true) true ts args.toList ds p) (ho:Wld.ok P w:=by trivial):Calls P f args w (Ar λu w'=>u=.bool true/\Below w.heap.size w w'):=by
 obtain⟨xs,h1,h2,h3⟩:=FU hk hv h;have:=((hden xs h1).old (rP h2 h3)).2 w [] args.toList ho η h2 h3;simp only[Array.toArray_toList]at this;exact this.mono λe w' ⟨u,he,hr,hb⟩=>⟨u,he,Uj hr.r,hb⟩
theorem YQ{k:IntKind}{n:Int}(hk:k=.u8\/k=.u16\/k=.u32\/k=.u64)(h:(Lit.int k n).wf=true):∃m:Nat,n=m/\m<2^k.bits:=by
 refine⟨n.toNat, ?_⟩;simp only[Lit.wf,gX,decide_eq_true_eq]at h;rcases hk with rfl|rfl|rfl|rfl<;>simp[IntKind.min,IntKind.max,IntKind.signed,IntKind.bits]at h ⊢<;>omega
theorem Ah{W:World}{sp:Nat->Bool}:∀{ts:List TypeId} {vs:List Value} {ds:List (DataW H)} {p:List MemPlace},DataW.TrodAll enc P W 0 sp true ts vs ds p->ds.length=ts.length
 |[],[],[],_,_=>rfl
 |_::ts,_::vs,_::ds,_,⟨_,_,_,h,_⟩=>by simp[Ah h]
 |[],_::_,_,_,h=>h.elim
 |[],[],_::_,_,h=>h.elim
 |_::_,[],_,_,h=>h.elim
 |_::_,_::_,[],_,h=>h.elim
theorem len2{α:Type}{l:List α}(h:l.length=2):∃a b,l=[a,b]:=by
 match l,h with
 |[a,b],_=>exact⟨a,b,rfl⟩
end
end Go.Sw
namespace Go.Proofs.YtdpkjhnfklkkjaaGreat
open Go Go.Proofs.Tryz
theorem ζ{p:Prop}(h:p:=by kernel_rfl):p:=h
theorem Tryz.own:ownKnob prog.godebug=none:=ζ
theorem Tryz.laidOut:laidOutB prog=true:=ζ
open Go.RowKit Go.Sw
set_option maxRecDepth 100000
instance aoc:Wld prog:=Wld.any _
def tab:Tab:=[(31,.row 4 [(0,2,true),(2,2,true)] [.v (.bool false),.sl 1 [],.v (.bool false),.sl 1 []]),
 (39,.row 66 [(0,1,false),(1,12,true),(13,12,true),(25,1,false),(26,20,true),(46,20,true)] [.v (.bool false),.v (.bool false),.sl 1 [],.v (.bool false),.sl 1 [],.v (.bool false),.sl 1 [],.v (.bool false),.sl 1 [],.v (.bool false),.sl 1 [],.v (.bool false),.sl 1 [],.v (.bool false),.sl 1 [],.v (.bool false),.sl 1 [],.v (.bool false),.sl 1 [],.v (.bool false),.sl 1 [],.v (.bool false),.sl 1 [],.v (.bool false),.sl 1 [],.v (.bool false),.v (.bool false),.sl 1 [],.v (.bool false),.sl 1 [],.v (.bool false),.sl 1 [],.v (.bool false),.sl 1 [],.v (.bool false),.sl 1 [],.v (.bool false),.sl 1 [],.v (.bool false),.sl 1 [],.v (.bool false),.sl 1 [],.v (.bool false),.sl 1 [],.v (.bool false),.sl 1 [],.v (.bool false),.sl 1 [],.v (.bool false),.sl 1 [],.v (.bool false),.sl 1 [],.v (.bool false),.sl 1 [],.v (.bool false),.sl 1 [],.v (.bool false),.sl 1 [],.v (.bool false),.sl 1 [],.v (.bool false),.sl 1 [],.v (.bool false),.sl 1 [],.v (.bool false),.sl 1 []]),
 (29,.row 2 [(0,1,false),(1,1,false)] [.v (.bool false),.sl 1 []]),
 (37,.row 20 [(0,4,true),(4,4,true),(8,4,true),(12,4,true),(16,4,true)] [.v (.bool false),.sl 1 [],.v (.bool false),.sl 1 [],.v (.bool false),.sl 1 [],.v (.bool false),.sl 1 [],.v (.bool false),.sl 1 [],.v (.bool false),.sl 1 [],.v (.bool false),.sl 1 [],.v (.bool false),.sl 1 [],.v (.bool false),.sl 1 [],.v (.bool false),.sl 1 []]),
 (62,.row 12 [(0,4,true),(4,4,true),(8,4,true)] [.v (.bool false),.sl 1 [],.v (.bool false),.sl 1 [],.v (.bool false),.sl 1 [],.v (.bool false),.sl 1 [],.v (.bool false),.sl 1 [],.v (.bool false),.sl 1 []]),
 (27,.slice 209 1 4 [.v (.int .u32 0)]),
 (49,.slice 39 66 1040 [.v (.bool false),.v (.bool false),.sl 1 [],.v (.bool false),.sl 1 [],.v (.bool false),.sl 1 [],.v (.bool false),.sl 1 [],.v (.bool false),.sl 1 [],.v (.bool false),.sl 1 [],.v (.bool false),.sl 1 [],.v (.bool false),.sl 1 [],.v (.bool false),.sl 1 [],.v (.bool false),.sl 1 [],.v (.bool false),.sl 1 [],.v (.bool false),.sl 1 [],.v (.bool false),.v (.bool false),.sl 1 [],.v (.bool false),.sl 1 [],.v (.bool false),.sl 1 [],.v (.bool false),.sl 1 [],.v (.bool false),.sl 1 [],.v (.bool false),.sl 1 [],.v (.bool false),.sl 1 [],.v (.bool false),.sl 1 [],.v (.bool false),.sl 1 [],.v (.bool false),.sl 1 [],.v (.bool false),.sl 1 [],.v (.bool false),.sl 1 [],.v (.bool false),.sl 1 [],.v (.bool false),.sl 1 [],.v (.bool false),.sl 1 [],.v (.bool false),.sl 1 [],.v (.bool false),.sl 1 [],.v (.bool false),.sl 1 [],.v (.bool false),.sl 1 [],.v (.bool false),.sl 1 []]),
 (35,.row 12 [(0,4,true),(4,4,true),(8,4,true)] [.v (.bool false),.sl 1 [],.v (.bool false),.sl 1 [],.v (.bool false),.sl 1 [],.v (.bool false),.sl 1 [],.v (.bool false),.sl 1 [],.v (.bool false),.sl 1 []]),
 (33,.row 12 [(0,4,true),(4,4,true),(8,4,true)] [.v (.bool false),.sl 1 [],.v (.bool false),.sl 1 [],.v (.bool false),.sl 1 [],.v (.bool false),.sl 1 [],.v (.bool false),.sl 1 [],.v (.bool false),.sl 1 []]),
 (69,.row 2 [(0,1,false),(1,1,false)] [.v (.int .i64 0),.v (.int .i64 0)]),
 (90,.row 8 [(0,4,true),(4,4,true)] [.v (.bool false),.sl 1 [],.v (.bool false),.sl 1 [],.v (.bool false),.sl 1 [],.v (.bool false),.sl 1 []]),
 (43,.slice 37 20 320 [.v (.bool false),.sl 1 [],.v (.bool false),.sl 1 [],.v (.bool false),.sl 1 [],.v (.bool false),.sl 1 [],.v (.bool false),.sl 1 [],.v (.bool false),.sl 1 [],.v (.bool false),.sl 1 [],.v (.bool false),.sl 1 [],.v (.bool false),.sl 1 [],.v (.bool false),.sl 1 []]),
 (209,.int .u32),
 (4,.bool),
 (58,.row 1 [(0,1,false)] [.sl 66 []]),
 (185,.row 24 [(0,4,true),(4,4,true),(8,4,true),(12,4,true),(16,4,true),(20,4,true)] [.v (.bool false),.sl 1 [],.v (.bool false),.sl 1 [],.v (.bool false),.sl 1 [],.v (.bool false),.sl 1 [],.v (.bool false),.sl 1 [],.v (.bool false),.sl 1 [],.v (.bool false),.sl 1 [],.v (.bool false),.sl 1 [],.v (.bool false),.sl 1 [],.v (.bool false),.sl 1 [],.v (.bool false),.sl 1 [],.v (.bool false),.sl 1 []]),
 (194,.int .u64),
 (2,.int .i64),
 (3,.int .i64),
 (291,.row 13 [(0,1,false),(1,12,true)] [.v (.int .i64 0),.v (.bool false),.sl 1 [],.v (.bool false),.sl 1 [],.v (.bool false),.sl 1 [],.v (.bool false),.sl 1 [],.v (.bool false),.sl 1 [],.v (.bool false),.sl 1 []]),
 (274,.row 13 [(0,1,false),(1,12,true)] [.v (.int .i64 0),.v (.bool false),.sl 1 [],.v (.bool false),.sl 1 [],.v (.bool false),.sl 1 [],.v (.bool false),.sl 1 [],.v (.bool false),.sl 1 [],.v (.bool false),.sl 1 []]),
 (247,.slice 62 12 192 [.v (.bool false),.sl 1 [],.v (.bool false),.sl 1 [],.v (.bool false),.sl 1 [],.v (.bool false),.sl 1 [],.v (.bool false),.sl 1 [],.v (.bool false),.sl 1 []]),
 (5,.int .u8),
 (24,.row 8 [(0,1,false),(1,1,false),(2,1,false),(3,1,false),(4,1,false),(5,1,false),(6,1,false),(7,1,false)] [.v (.int .u8 0),.v (.int .u8 0),.v (.int .i8 0),.v (.int .i8 0),.v (.int .i8 0),.v (.int .i8 0),.v (.int .i8 0),.v (.int .i8 0)]),
 (100,.row 16 [(0,4,true),(4,4,true),(8,4,true),(12,4,true)] [.v (.bool false),.sl 1 [],.v (.bool false),.sl 1 [],.v (.bool false),.sl 1 [],.v (.bool false),.sl 1 [],.v (.bool false),.sl 1 [],.v (.bool false),.sl 1 [],.v (.bool false),.sl 1 [],.v (.bool false),.sl 1 []]),
 (293,.int .u64),
 (215,.int .u64),
 (161,.slice 2 1 8 [.v (.int .i64 0)]),
 (26,.row 17 [(0,8,true),(8,8,true),(16,1,false)] [.v (.int .u8 0),.v (.int .u8 0),.v (.int .i8 0),.v (.int .i8 0),.v (.int .i8 0),.v (.int .i8 0),.v (.int .i8 0),.v (.int .i8 0),.v (.int .u8 0),.v (.int .u8 0),.v (.int .i8 0),.v (.int .i8 0),.v (.int .i8 0),.v (.int .i8 0),.v (.int .i8 0),.v (.int .i8 0),.v (.int .u8 0)]),
 (67,.row 6 [(0,1,false),(1,1,false),(2,1,false),(3,1,false),(4,1,false),(5,1,false)] [.v (.int .i16 0),.v (.int .i16 0),.v (.int .u16 0),.v (.int .u8 0),.v (.int .u8 0),.v (.int .u8 0)]),
 (22,.int .i8),
 (257,.row 1 [(0,1,false)] [.v (.bool false)]),
 (143,.slice 90 8 128 [.v (.bool false),.sl 1 [],.v (.bool false),.sl 1 [],.v (.bool false),.sl 1 [],.v (.bool false),.sl 1 []]),
 (243,.slice 49 1 24 [.sl 66 []]),
 (75,.row 2 [(0,1,false),(1,1,false)] [.v (.int .i64 0),.v (.int .i64 0)]),
 (64,.int .i16),
 (65,.int .u16),
 (9,.str),
 (3000000259,.flag)]
theorem dJ:dQ prog tab=true:=ζ
theorem dF:prog.follows .mixedOrders=true:=ζ
theorem aS{f:FuncId}{fn:Func}{c:Code}{xs:List AV}{r:AV}(hf:prog.funcs[f]?=some fn)(hb:fn.body=some c)(h:nH (Den prog) tab c (EJ tab fn r) (uM 0 xs) [])(a:fE prog f=true:=by kernel_rfl)(t:fV fn.ntmps c=true:=by kernel_rfl)(l:Nat.ble xs.length fn.ntmps=true:=by kernel_rfl)(n:mG xs=true:=by rfl):Den prog f xs r:=zK dJ dF hf hb a t l h n
def agP:Tab:=(2000000000,.flag)::tab
theorem aaF:dQ prog agP=true:=ζ
end Go.Proofs.YtdpkjhnfklkkjaaGreat
namespace Go.Sw
open Go Go.RowKit
def nX:List Cell->Prop
 |[]=>True
 |.sl _ es::r=>es.length<=9223372036854775807/\nX r
 |_::r=>nX r
def qL:List AV->Prop
 |[]=>True
 |v::r=>nX (cellsOf v)/\qL r
theorem vO{w:World}{X:List Nat}:∀{us:List Value} {cs:List Cell},RepL w X us cs->nX cs
 |us,[],_=>trivial
 |us,.v u::r,h=>by
  obtain⟨_,us',_,_,h2⟩:=h.inv;show nX r;exact vO h2
 |us,.p ps::r,h=>by
  obtain⟨_,us',_,_,h2⟩:=h.inv;show nX r;exact vO h2
 |us,.fn ff ps::r,h=>by
  obtain⟨_,us',_,_,h2⟩:=h.inv;show nX r;exact vO h2
 |us,.ob i n::r,h=>by
  obtain⟨_,us',_,_,h2⟩:=h.inv;show nX r;exact vO h2
 |us,.sl s es::r,h=>by
  obtain⟨_,us',_,h1,h2⟩:=h.inv;obtain⟨A,cap,uss,_,h3,h4,_⟩:=RepS.of_sl h1;exact⟨fZ h3 h4,vO h2⟩
theorem RJ{w:World}{X:List Nat}:∀{vs:List Value} {xs:List AV},vs.length=xs.length->(∀(i:Nat) u v,vs[i]?=some u->xs[i]?=some v->RepD w X u v)->qL xs
 |_,[],_,_=>trivial
 |[],_::_,h,_=>by simp at h
 |v::vs,x::xs,hl,h=>⟨by
  obtain⟨us,_,h1⟩:=(h 0 v x rfl rfl).cells
  exact vO h1,RJ (by simpa using hl) λi u y a b=>h (i+1) u y (by simpa using a) (by simpa using b)⟩
theorem iJ{P:Program}[Wld P]{f:FuncId}{xs:List AV}{r:AV}(hb:fE P f=true)(h:qL xs->Den P f xs r)(hn:mG xs=true:=by rfl):Den P f xs r :=
 Den.of ⟨hb,λw X vs ho hX hl hr=>((h (RJ hl hr)).old hn).2 w X vs ho hX hl hr⟩ hn
end Go.Sw
namespace Go.Sw
open Go
def rz(q:Rat):Nat:=sz q.num+sz q.den
theorem lN(q:Rat):sz q.num<=rz q:=Nat.le_add_right _ _
theorem mX(q:Rat):sz q.den<=rz q:=Nat.le_add_left _ _
theorem zZ{q:Rat}{a b:Int}(h1:q.num=a)(h2:(q.den:Int)=b):aW [AV.agg [zs a,zl a,zs b,zl b]]=R q:=by subst h1 h2;rfl
theorem X8(n d:Int):((Nat.gcd n.natAbs d.natAbs:Nat):Int)=((d.gcd n:Nat):Int):=by rw[Nat.gcd_comm];rfl
theorem sJ{n d:Int}(hd:0<d):((n:Rat)/d).num=n.fdiv (Nat.gcd n.natAbs d.natAbs:Nat)/\((((n:Rat)/d).den:Nat):Int)=d.fdiv (Nat.gcd n.natAbs d.natAbs:Nat):=by
 rw[<-Rat.divInt_eq_div,Rat.num_divInt,Rat.den_divInt,X8,if_neg ω];have hg:0<d.gcd n:=Int.gcd_pos_of_ne_zero_left n ω;rw[Int.sign_eq_one_of_pos hd,Int.one_mul];refine⟨?_, ?_⟩
 .rw[Yg _ ω]
 .rw[Yg _ ω,Int.natCast_ediv];congr 1;omega
theorem QI{n d:Int}(hd:d<0):((n:Rat)/d).num=(-n).fdiv (Nat.gcd (-n).natAbs (-d).natAbs:Nat)/\((((n:Rat)/d).den:Nat):Int)=(-d).fdiv (Nat.gcd (-n).natAbs (-d).natAbs:Nat):=by
 have h:=sJ (n:=-n) (d:=-d) ω
 have e:((-n:Int):Rat)/((-d:Int):Rat)=(n:Rat)/d:=by
  have:(d:Rat)≠0:=by intro h0;have:=(Rat.intCast_inj (a:=d) (b:=0)).1 (by simpa using h0);omega
  rw[Rat.intCast_neg,Rat.intCast_neg];grind
 rwa [e]at h
theorem fdiv_one(n:Int):n.fdiv 1=n:=by simp
theorem afn{n d:Int}(hd:d≠0):sz ((n:Rat)/d).num<=sz n/\sz ((n:Rat)/d).den<=sz d:=by
 have key:∀{n d:Int},0<d->sz ((n:Rat)/d).num<=sz n/\sz ((n:Rat)/d).den<=sz d:=by
  intro n d hd;obtain⟨h1,h2⟩:=sJ (n:=n) hd;have hg:0<Nat.gcd n.natAbs d.natAbs:=Nat.gcd_pos_of_pos_right _ ω;rw[h1,h2];constructor<;>apply ku
  .rw[Yg _ ω];have:(Nat.gcd n.natAbs d.natAbs:Int) ∣ n:=Int.ofNat_dvd_left.2 (Nat.gcd_dvd_left _ _);rw[Int.natAbs_ediv_of_dvd this];exact OU _ _
  .rw[Yg _ ω];have:(Nat.gcd n.natAbs d.natAbs:Int) ∣ d:=Int.ofNat_dvd_left.2 (Nat.gcd_dvd_right _ _);rw[Int.natAbs_ediv_of_dvd this];exact OU _ _
 rcases Int.lt_or_gt_of_ne hd with h|h
 .have e:((-n:Int):Rat)/((-d:Int):Rat)=(n:Rat)/d:=by
   have:(d:Rat)≠0:=by intro h0;have:=(Rat.intCast_inj (a:=d) (b:=0)).1 (by simpa using h0);omega
   rw[Rat.intCast_neg,Rat.intCast_neg];grind
  have:=key (n:=-n) (d:=-d) ω;rw[e,iD,iD]at this;exact this
 .exact key h
theorem ah(q:Rat):(q.den:Int)≠0:=by have:=q.den_nz;omega
theorem den_pos(q:Rat):(0:Int)<q.den:=by have:=q.den_nz;omega
theorem nN(q:Rat):((q.den:Int):Rat)≠0:=by
 intro h0;have:=(Rat.intCast_inj (a:=q.den) (b:=0)).1 (by simpa using h0);exact ah q this
theorem lM(q:Rat):(q.num:Rat)=q*(q.den:Int):=by
 have h:=Rat.num_divInt_den q;rw[Rat.divInt_eq_div]at h;have:=nN q
 grind
theorem add_div(a b:Rat):((a.num*b.den+b.num*a.den:Int):Rat)/((a.den*b.den:Int):Rat)=a+b:=by
 have h1:=lM a;have h2:=lM b;have h3:=nN a;have h4:=nN b;rw[Rat.intCast_add,Sj,Sj,Sj]
 grind
theorem YZ(a b:Rat)(h:(a.den:Int)=b.den):((a.num+b.num:Int):Rat)/((a.den:Int):Rat)=a+b:=by
 have h1:=lM a;have h2:=lM b;have h3:=nN a;rw[Rat.intCast_add,h1,h2,<-h]
 grind
theorem mul_div(a b:Rat):((a.num*b.num:Int):Rat)/((a.den*b.den:Int):Rat)=a*b:=by
 have h1:=lM a;have h2:=lM b;have h3:=nN a;have h4:=nN b;rw[Sj,Sj]
 grind
theorem XG{b:Rat}(h:b≠0):((b.num:Int):Rat)≠0:=by
 rw[lM];have:=nN b;grind
theorem G5(a b:Rat)(h:b≠0):((a.num*b.den:Int):Rat)/((a.den*b.num:Int):Rat)=a/b:=by
 have h1:=lM a;have h2:=lM b;have h3:=nN a;have h4:=nN b;rw[Sj,Sj]
 grind
theorem Ii{n d:Int}(hd:d≠0):rz ((n:Rat)/d)<=sz n+sz d:=by
 have:=afn (n:=n) hd;unfold rz;omega
theorem kW(a b:Rat):rz (a+b)<=2*(rz a+rz b)+1:=by
 rw[<-add_div];have h:=Ii (n:=a.num*b.den+b.num*a.den) (d:=(a.den*b.den:Int)) (bV (ah a) (ah b));have h1:=kE (a.num*b.den) (b.num*a.den);have h2:=jc a.num b.den;have h3:=jc b.num a.den;have h4:=jc a.den b.den;unfold rz at h ⊢;omega
theorem lq(a b:Rat):rz (a*b)<=rz a+rz b:=by
 rw[<-mul_div];have h:=Ii (n:=a.num*b.num) (d:=(a.den*b.den:Int)) (bV (ah a) (ah b));have h2:=jc a.num b.num;have h4:=jc a.den b.den;unfold rz at h ⊢;omega
theorem jK(a:Rat):rz (-a)=rz a:=by unfold rz;rw[Rat.neg_num,Rat.neg_den,iD]
theorem ny(a b:Rat):rz (a-b)<=2*(rz a+rz b)+1:=by
 have:=kW a (-b);rw[jK]at this;rwa [Rat.sub_eq_add_neg]
theorem ad4(a b:Rat)(h:b≠0):rz (a/b)<=rz a+rz b:=by
 rw[<-G5 a b h];have hb:b.num≠0:=λh0=>XG h (by rw[h0];rfl)
 have h:=Ii (n:=a.num*b.den) (d:=(a.den*b.num:Int)) (bV (ah a) hb);have h2:=jc a.num b.den;have h4:=jc a.den b.num;unfold rz at h ⊢;omega
theorem jT:sz 1<=1:=F8 ψ
theorem mQ(n:Int):rz (n:Rat)<=sz n+1:=by
 unfold rz;rw[Rat.num_intCast,Rat.den_intCast];have:=jT;simp;exact this
theorem U7{a:Int}:qj a<0↔a<0:=by unfold qj;split<;>(try split)<;>omega
theorem Xy{a:Int}:qj a<=0↔a<=0:=by unfold qj;split<;>(try split)<;>omega
theorem YK{a:Int}:qj a>0↔a>0:=by unfold qj;split<;>(try split)<;>omega
theorem Va{a:Int}:qj a>=0↔a>=0:=by unfold qj;split<;>(try split)<;>omega
theorem VF{a:Int}:qj a=1↔0<a:=by unfold qj;split<;>(try split)<;>omega
theorem Wx{a b:Int}:kF a b<=0↔a<=b:=by unfold kF;split<;>(try split)<;>omega
theorem Wq{a b:Int}:kF a b>=0↔a>=b:=by unfold kF;split<;>(try split)<;>omega
def jJ(a b:Rat):Int:=if a<b then -1 else if b<a then 1 else 0
def bD(a:Rat):Int:=if a<0 then -1 else if a=0 then 0 else 1
theorem ZO(a b:Rat):kF (a.num*b.den) (b.num*a.den)=jJ a b:=by
 unfold kF jJ;simp only[Rat.lt_iff]
theorem PS(a:Rat):a.num<0↔a<0:=by rw[Rat.lt_iff];simp
theorem Qq(a:Rat):a.num=0↔a=0:=by simp
theorem ab9(a:Rat):0<a.num↔0<a:=by rw[Rat.lt_iff];simp
theorem abt(a:Rat):qj a.num=bD a:=by unfold qj bD;simp only[PS,Qq]
theorem Za{a b:Rat}:jJ a b<0↔a<b:=by unfold jJ;split<;>(try split)<;>simp_all
theorem XU{a b:Rat}:jJ a b>0↔b<a:=by unfold jJ;split<;>(try split)<;>simp_all<;>grind
theorem Kz{a b:Rat}:jJ a b=0↔a=b:=by unfold jJ;split<;>(try split)<;>simp_all<;>grind
theorem V6{a b:Rat}:jJ a b<=0↔a<=b:=by unfold jJ;split<;>(try split)<;>simp_all<;>grind
theorem VR{a b:Rat}:jJ a b>=0↔b<=a:=by unfold jJ;split<;>(try split)<;>simp_all<;>grind
theorem JK{a:Rat}:bD a<0↔a<0:=by unfold bD;split<;>(try split)<;>simp_all
theorem eU{a:Rat}:bD a=0↔a=0:=by unfold bD;split<;>(try split)<;>simp_all<;>grind
theorem Xc{a:Rat}:bD a>0↔0<a:=by unfold bD;split<;>(try split)<;>simp_all<;>grind
theorem Yq{a:Rat}:bD a<=0↔a<=0:=by unfold bD;split<;>(try split)<;>simp_all<;>grind
theorem Xe{a:Rat}:bD a>=0↔0<=a:=by unfold bD;split<;>(try split)<;>simp_all<;>grind
theorem pO{a:Rat}:bD a=1↔0<a:=by unfold bD;split<;>(try split)<;>simp_all<;>grind
def bn:=And.intro @U7 <| And.intro @TG <| And.intro @Xy <| And.intro @YK <| And.intro @Va <| And.intro @VF <| And.intro @DW <| And.intro @Ce <| And.intro @J5 <| And.intro @Wx <| And.intro @Wq <| And.intro @ZO <| And.intro @abt <| And.intro @JK <| And.intro @eU <| And.intro @Xc <| And.intro @Yq <| And.intro @Xe <| And.intro @pO <| And.intro @Za <| And.intro @XU <| And.intro @Kz <| And.intro @V6 <| @VR
theorem J9(a:Rat):a.num.fdiv a.den=a.floor:=by
 rw[Rat.floor_def,Yg _ ω]
def ZR:AV:=.agg [.v (.bool false),.sl 1 [],.v (.bool false),.sl 1 []]
theorem acN(n:Int):((0:Int):Rat)/((1:Int):Rat)=(n:Rat)/((0:Int):Rat):=by
 have h1:((0:Int):Rat)=0:=rfl;rw[h1,Rat.div_def (n:Rat),Rat.inv_zero];grind
theorem Z0:Z 0=.agg [.v (.bool false),.sl 1 []]:=by
 have:lim 0=[]:=kM;simp[Z,zs,zl,dB,this]
theorem KI(n:Nat):(lim n).length=0↔n=0:=by rw[List.length_eq_zero_iff,I5]
theorem qU(n:Nat):(((lim n).length:Nat):Int)=0↔n=0:=by rw[<-KI];omega
theorem rF(n:Nat):(((lim n).length:Nat):Int)>0↔¬n=0:=by rw[<-KI];omega
theorem Aa(a b:Int):a.natAbs=b.natAbs*(a.natAbs/b.natAbs)+a.natAbs%b.natAbs:=(Nat.div_add_mod _ _).symm
theorem LD(a:Int):aW [AV.agg [Cell.v (Value.bool false),Cell.sl 1 []],AV.agg [Cell.v (Value.bool false),Cell.sl 1 []],.int .i64 6]=.tup [Z (a.fdiv 0),Z (if(0:Int)=0 then 0 else a.fmod 0),.int .i64 (if(0:Int)=0 then 6 else 0)]:=by
 have h:a.fdiv 0=0:=by simp
 rw[h,if_pos rfl,if_pos rfl,Z0];rfl
theorem yh{a b:Int}(hb:¬b.natAbs=0)(h:a.natAbs%b.natAbs=0\/¬(decide (a<0) != decide (b<0))=true):
 aW [Z (gW (decide (a<0) != decide (b<0)) (a.natAbs/b.natAbs)),Z (gW (decide (a<0)) (a.natAbs%b.natAbs)),.int .i64 0]=.tup [Z (a.fdiv b),Z (if b=0 then 0 else a.fmod b),.int .i64 (if b=0 then 6 else 0)]:=by
 have hb':b≠0:=ω
 obtain⟨h1,h2⟩:=aai (a:=a) hb' (Aa a b) (qx _ ω) (by rcases h with h|h;exact .inl h;right;by_cases h1:a<0<;>by_cases h2:b<0<;>simp_all<;>omega);rw[h1,h2,if_neg hb',if_neg hb'];rfl
theorem J8{a b:Int}(hb:¬b.natAbs=0)(h0:¬a.natAbs%b.natAbs=0)(h:(decide (a<0) != decide (b<0))=true):
 aW [Z (gW (decide (a<0) != decide (b<0)) (a.natAbs/b.natAbs)-1),Z (gW (decide (a<0)) (a.natAbs%b.natAbs)+b),.int .i64 0]=.tup [Z (a.fdiv b),Z (if b=0 then 0 else a.fmod b),.int .i64 (if b=0 then 6 else 0)]:=by
 have hb':b≠0:=ω
 obtain⟨h1,h2⟩:=aa7 (a:=a) hb' (Aa a b) (qx _ ω) ω (by by_cases h1:a<0<;>by_cases h2:b<0<;>simp_all);rw[h1,h2,if_neg hb',if_neg hb'];rfl
theorem Bq(neg:Bool)(n:Nat)(a:Int)(h:n<=a.natAbs):sz (gW neg n)<=sz a:=ku (by rw[ql];exact h)
def iC:Nat->Nat
 |0=>0
 |n+1=>if(iC n+1)*(iC n+1)<=n+1 then iC n+1 else iC n
theorem sO:∀n,iC n*iC n<=n/\n<(iC n+1)*(iC n+1)
 |0=>by simp[iC]
 |n+1=>by
  obtain⟨h1,h2⟩:=sO n;unfold iC;split
  .rename_i h;refine⟨h, ?_⟩;have e:(iC n+1+1)*(iC n+1+1)=(iC n+1)*(iC n+1)+2*(iC n+1)+1:=ν
   omega
  .exact⟨ω,ω⟩
theorem KD{n r:Nat}(h1:r*r<=n)(h2:n<(r+1)*(r+1)):r=iC n:=by
 obtain⟨q1,q2⟩:=sO n;rcases Nat.lt_trichotomy r (iC n)with h|h|h
 .have:=MZ (show r+1<=iC n by omega) (show r+1<=iC n by omega);omega
 .exact h
 .have:=MZ (show iC n+1<=r by omega) (show iC n+1<=r by omega);omega
theorem Ud(k:Nat):[Cell.v (.bool false),Cell.sl 1 (List.replicate k [Cell.v (.int .u32 0)]++[[Cell.v (.int .u32 1)]])]=[zs ((1000000000^k:Nat):Int),zl ((1000000000^k:Nat):Int)]:=by
 have h0:=Ec k
 have hl:lim (1000000000^k)=List.replicate k 0++[1]:=by
  have hb:Lb (List.replicate k 0++[1]):=(gV k).append (Lb.cons ω Lb.nil);have hv:val (List.replicate k 0++[1])=1000000000^k:=by rw[val_append,vU];simp[val]
  rw[<-hv,kQ _ hb];have hc:CanL (List.replicate k 0++[1]):=(Bg hb).2 (.inr (by simp[List.getD]));exact hc.2
 have hn:¬(((1000000000^k:Nat):Int)<0):=Int.not_lt.2 (Int.natCast_nonneg _);unfold zs zl;rw[decide_eq_false hn,uP,hl];unfold dB;rw[UZ,List.map_replicate];rfl
theorem LZ{n:Nat}(h:n<=1000000000000):IntKind.i64.wrap ((IntKind.i64.wrap ((n:Nat)+1)).tdiv 2)=(((n+1)/2:Nat):Int):=by
 rw[bG (a:=(n:Nat)+1) ω ω,Int.tdiv_eq_ediv_of_nonneg ω,bG ω ω];omega
theorem PK{a:Int}(h:a<0):aW [AV.agg [Cell.v (Value.bool false),Cell.sl 1 []],AV.c (Cell.v (Value.int IntKind.i64 7))]=AV.tup [Z (if a<0 then 0 else(iC a.natAbs:Nat)),AV.int IntKind.i64 (if a<0 then 7 else 0)]:=by
 rw[if_pos h,if_pos h,Z0];rfl
theorem J7{a:Int}(h:¬a<0)(h0:a.natAbs=0):aW [AV.agg [Cell.v (Value.bool false),Cell.sl 1 []],AV.c (Cell.v (Value.int IntKind.i64 0))]=AV.tup [Z (if a<0 then 0 else(iC a.natAbs:Nat)),AV.int IntKind.i64 (if a<0 then 7 else 0)]:=by
 rw[if_neg h,if_neg h,h0,show((iC 0:Nat):Int)=0 from rfl,Z0];rfl
theorem RD{a:Int}{x:Nat}(h:¬a<0)(hx:0<x/\a.natAbs<(x+1)*(x+1)/\sz x<=200000000)(hge:(((x+a.natAbs/x)/2:Nat):Int)>=x):
 aW [AV.agg [zs x,zl x],AV.c (Cell.v (Value.int IntKind.i64 0))]=AV.tup [Z (if a<0 then 0 else(iC a.natAbs:Nat)),AV.int IntKind.i64 (if a<0 then 7 else 0)]:=by
 have h1:=Oz hx.1 rfl (show x<=(x+a.natAbs/x)/2 by omega);rw[if_neg h,if_neg h,<-KD h1 hx.2.1];rfl
theorem LP{a:Int}{x:Nat}(h0:¬a.natAbs=0)(hx:0<x/\a.natAbs<(x+1)*(x+1)/\sz x<=200000000)(hge:¬(((x+a.natAbs/x)/2:Nat):Int)>=x):
 0<(x+a.natAbs/x)/2/\a.natAbs<((x+a.natAbs/x)/2+1)*((x+a.natAbs/x)/2+1)/\sz ((x+a.natAbs/x)/2:Nat)<=200000000 :=
 ⟨Og ω hx.1 rfl,Gf hx.1 rfl,fZ (ku (by rw[uP,uP];omega)) hx.2.2⟩
theorem QV{a:Int}{x:Nat}:sz ((a.natAbs/x:Nat):Int)<=sz a:=ku (by rw[uP];exact OU _ _)
theorem kC{x:Nat}(h:x+1<=9223372036854775807):some (AV.int .i64 (IntKind.i64.wrap ((x:Nat)+1)))=some (AV.int .i64 ((x+1:Nat):Int)):=by
 rw[bG ω ω];rfl
theorem bE{x y:Bool}(h:x=y):aW [AV.c (Cell.v (Value.bool x))]=AV.bool y:=by rw[h];rfl
theorem iE{k:IntKind}{x y:Int}(h:x=y):aW [AV.c (Cell.v (Value.int k x))]=AV.int k y:=by rw[h];rfl
def pad:Nat->Nat->List Nat
 |0,_=>[]
 |n+1,v=>v%1000000000::pad n (v/1000000000)
theorem Rq:∀(n v:Nat),(pad n v).length=n
 |0,_=>rfl
 |n+1,v=>by simp[pad,Rq]
theorem lW:∀(n v:Nat),Lb (pad n v)
 |0,_=>Lb.nil
 |n+1,v=>Lb.cons (qx _ ψ) (lW n _)
theorem nI:∀(n v:Nat),v<1000000000^n->val (pad n v)=v
 |0,v,h=>by simp at h;subst h;rfl
 |n+1,v,h=>by
  have:v/1000000000<1000000000^n:=Nat.div_lt_of_lt_mul (by rw[EU,Gx]at h;exact h);simp only[pad,val,nI n _ this];omega
theorem BF:∀(l:List Nat),Lb l->l=pad l.length (val l)
 |[],_=>rfl
 |x::r,h=>by
  have h1:=h.head;have h2:=BF r h.tail;simp only[ji,pad,val];rw[show(x+1000000000*val r)%1000000000=x by omega,show(x+1000000000*val r)/1000000000=val r by omega,<-h2]
theorem OZ{l:List Nat}{n v:Nat}(h:Lb l)(hl:l.length=n)(hv:val l=v):dB l=dB (pad n v):=by
 subst hl hv;rw[<-BF l h]
theorem cE{c c':Cell}(h:c=c'):aW [AV.c c]=AV.c c':=by rw[h];rfl
theorem lE{l l':List Nat}(h:l=l'):aW [AV.c (dB l)]=AV.c (dB l'):=by rw[h];rfl
theorem ahD{l:List Nat}{k:Nat}{i:Int}(hk:k<=l.length)(h0:¬k=0)(hi:i.toNat=k-1):some (AV.c (.sl 1 ((((l.take k).map λx=>[Cell.v (u32 x)]).take i.toNat).drop (Int.toNat 0))))=some (AV.c (dB (l.take (k-1)))):=by
 rw[hi];show some (AV.c (.sl 1 (List.drop 0 _)))=_;rw[UW,<-List.map_take,List.take_take,Nat.min_eq_left ω]
theorem jB{x:Nat}:((x:Int)-1).toNat=x-1:=ω
theorem Uo{x:Nat}:((x:Int)+1).toNat=x+1:=ω
theorem zO{x n:Nat}(h:x<=n):min x n=x:=Nat.min_eq_left h
theorem xM{l:List Nat}{x:Nat}(hx:x<=l.length/\∀j,x<=j->l.getD j 0=0)(h:x=0\/(l.take x).getD (x-1) 0≠0):aW [AV.c (dB (l.take x))]=AV.c (dB (aG l)) :=
 lE (o8 l x hx.1 hx.2 (TL hx.1 h))
theorem zE{neg b:Bool}{l:List Nat}(hb:Lb l)(h:b=(neg&&decide (0<val l))):aW [AV.agg [Cell.v (.bool b),dB (aG l)]]=Z (gW neg (val l)):=by
 subst h;show AV.agg [_,_]=AV.agg [zs _,zl _];unfold zs zl;rw[BQ,ql,kQ l hb]
theorem OQ{l:List Nat}(hb:Lb l):0<(aG l).length↔0<val l:=by
 rw[<-kQ l hb];have:=eH (n:=val l);omega
theorem zE1{b:Bool}{l:List Nat}(hb:Lb l)(h:b=decide ((((aG l).length:Nat):Int)>0)):aW [AV.agg [Cell.v (.bool b),dB (aG l)]]=Z (gW true (val l)) :=
 zE hb (by have:=OQ hb;subst h;rw[ZC,decide_eq_decide];omega)
theorem zE0{l:List Nat}(hb:Lb l):aW [AV.agg [Cell.v (.bool false),dB (aG l)]]=Z (gW false (val l)):=zE hb rfl
theorem ags{l:List Nat}{x:Nat}{i j:Int}(hx:x<=l.length/\∀j,x<=j->l.getD j 0=0)(h:x=0\/l.getD (x-1) 0≠0)(hi:i.toNat=0)(hj:j.toNat=x):Cell.sl 1 (List.drop i.toNat (List.take j.toNat (l.map λx=>[Cell.v (u32 x)])))=dB (aG l):=by
 rw[hi,hj,UW,<-List.map_take,o8 l x hx.1 hx.2 h]
theorem sg1{b:Bool}{l:List Nat}{x:Nat}{i j:Int}(hb:Lb l)(hx:x<=l.length/\∀j,x<=j->l.getD j 0=0)(h:x=0\/l.getD (x-1) 0≠0)(hi:i.toNat=0)(hj:j.toNat=x)(he:b=decide (((x:Nat):Int)>0)):
 aW [AV.agg [Cell.v (.bool b),Cell.sl 1 (List.drop i.toNat (List.take j.toNat (l.map λx=>[Cell.v (u32 x)])))]]=Z (gW true (val l)):=by
 rw[ags hx h hi hj];have hl:=congrArg List.length (o8 l x hx.1 hx.2 h);rw[xB,Nat.min_eq_left hx.1]at hl;exact zE1 hb (by rw[he,hl])
theorem sg0{l:List Nat}{x:Nat}{i j:Int}(hb:Lb l)(hx:x<=l.length/\∀j,x<=j->l.getD j 0=0)(h:x=0\/l.getD (x-1) 0≠0)(hi:i.toNat=0)(hj:j.toNat=x):
 aW [AV.agg [Cell.v (.bool false),Cell.sl 1 (List.drop i.toNat (List.take j.toNat (l.map λx=>[Cell.v (u32 x)])))]]=Z (gW false (val l)):=by
 rw[ags hx h hi hj];exact zE0 hb
theorem afY{n:Nat}(h0:0<n)(h:n<=9223372036854775807):some (AV.int .i64 (IntKind.i64.wrap ((n:Int)-1)))=some (AV.int .i64 ((n-1:Nat):Int)):=by
 rw[bG ω ω];congr 2;omega
theorem xu{n:Nat}(h0:0<n)(h:n<=9223372036854775807):some (AV.int .i64 (IntKind.i64.wrap ((n:Int)-1-1)))=some (AV.int .i64 (((n-1:Nat):Int)-1)):=by
 rw[bG ω ω];congr 2;omega
section
variable {a b:List Nat} {x:Nat}
theorem Qj(ha:CanL a)(hb:CanL b)(h:a.length<b.length):aW [AV.c (Cell.v (.int .i64 (-1)))]=AV.int .i64 (iy (val a) (val b)):=by rw[Qr (jk ha hb h)];rfl
theorem Qz(ha:CanL a)(hb:CanL b)(h:b.length<a.length):aW [AV.c (Cell.v (.int .i64 1))]=AV.int .i64 (iy (val a) (val b)):=by rw[Pm (jk hb ha h)];rfl
theorem acP(ha:CanL a)(hb:CanL b)(hx:x<=a.length/\∀j,x<=j->a.getD j 0=b.getD j 0)(hl:a.length=b.length)(h0:0<x)(h:a.getD (x-1) 0<b.getD (x-1) 0):aW [AV.c (Cell.v (.int .i64 (-1)))]=AV.int .i64 (iy (val a) (val b)):=by
 rw[Qr (o7 (x-1) ha.1 hb.1 hl ω (λj hj=>hx.2 j ω) h)];rfl
theorem ac1(ha:CanL a)(hb:CanL b)(hx:x<=a.length/\∀j,x<=j->a.getD j 0=b.getD j 0)(hl:a.length=b.length)(h0:0<x)(h:b.getD (x-1) 0<a.getD (x-1) 0):aW [AV.c (Cell.v (.int .i64 1))]=AV.int .i64 (iy (val a) (val b)):=by
 rw[Pm (o7 (x-1) hb.1 ha.1 hl.symm ω (λj hj=>(hx.2 j ω).symm) h)];rfl
theorem ado(hx:x<=a.length/\∀j,x<=j->a.getD j 0=b.getD j 0)(hl:a.length=b.length)(h0:x=0):aW [AV.c (Cell.v (.int .i64 0))]=AV.int .i64 (iy (val a) (val b)):=by
 rw[acn (congrArg val (KJ hl λj=>hx.2 j ω))];rfl
theorem fz2(h:a.length=b.length):a.length<=a.length/\∀j,a.length<=j->a.getD j 0=b.getD j 0:=⟨jg _,λj hj=>by rw[getD_none hj,getD_none ω]⟩
end
theorem kR{v m:Int}(h:0<=v):v.tmod m=v%m:=Int.tmod_eq_emod_of_nonneg h
theorem kS{v m:Int}(h:0<=v):v.tdiv m=v/m:=Int.tdiv_eq_ediv_of_nonneg h
theorem xC{o:List Nat}{k d i T:Nat}{v:Int}(hi:i=k)(hv:v=(d:Int)):some (Bk.grow T 1 ((o.map λx=>[Cell.v (u32 x)]).set i [Cell.v (.int .u32 v)]))=some (Bk.grow T 1 ((o.set k d).map λx=>[Cell.v (u32 x)])):=by
 subst hi hv;rw[List.map_set];rfl
theorem lQ(n T:Nat):some (Bk.grow T 1 (List.replicate n [Cell.v (.int .u32 0)]))=some (Bk.grow T 1 ((List.replicate n 0).map λx=>[Cell.v (u32 x)])):=by
 rw[List.map_replicate];rfl
theorem iS{k:IntKind}{a b:Int}(h:a=b):some (AV.int k a)=some (AV.int k b):=by rw[h]
theorem akO(l:List Nat)(i d:Nat):(l.map λx=>[Cell.v (u32 x)]).set i [Cell.v (.int .u32 ((d:Nat):Int))]=(l.set i d).map λx=>[Cell.v (u32 x)]:=by rw[List.map_set];rfl
theorem YO{o x y:List Nat}{k cr v:Nat}(ho:o.length=x.length+1)(hk:k=x.length)(hy:y.length<=x.length)(hb:Lb o)(hc:cr<=1)(hv:val (o.take k)+1000000000^k*cr=val (x.take k)+val (y.take k))(e:v=val x+val y):
 aW [AV.c (dB (aG (o.set x.length cr)))]=AV.c (dB (lim v)):=lE (by
 have h1:=Wj ho hk hy hv
 rw[e,<-h1,kQ _ (gG hb ω)])
theorem Md{o:List Nat}{d T:Nat}{v:Int}(hv:v=(d:Int)):some (Bk.grow T 1 ((o.map λx=>[Cell.v (u32 x)])++[[Cell.v (.int .u32 v)]]))=some (Bk.grow T 1 ((o++[d]).map λx=>[Cell.v (u32 x)])):=by
 subst hv;rw[UZ];rfl
theorem gsE{b n m:Nat}(h:n=m):some (AV.gs b n)=some (AV.gs b m):=by rw[h]
theorem ahI{o:List Nat}{d:Nat}:Cell.sl 1 ((o.map λx=>[Cell.v (u32 x)])++[[Cell.v (.int .u32 ((d:Nat):Int))]])=dB (o++[d]):=by
 unfold dB;rw[UZ];rfl
theorem afp{l:List Nat}{n v:Nat}(h:Lb l)(hl:l.length=n)(hv:val l=v):aW [AV.c (dB l)]=AV.c (dB (pad n v)):=cE (OZ h hl hv)
theorem adk{l:List Nat}{d n v:Nat}(h:Lb l)(hd:d<1000000000)(hl:l.length+1=n)(hv:val l+1000000000^l.length*d=v):aW [AV.c (.sl 1 ((l.map λx=>[Cell.v (u32 x)])++[[Cell.v (.int .u32 ((d:Nat):Int))]]))]=AV.c (dB (pad n v)):=by
 rw[ahI];exact afp (sW h hd) (by simpa using hl) (by rw[YX rfl];exact hv)
theorem Fz{o x y:List Nat}{k br:Nat}(hbo:Lb o)(hx:Lb x)(ho:o.length=x.length)(hk:k=x.length)(hy:y.length<=x.length)(hle:val y<=val x)(hv:val (o.take k)+val (y.take k)=val (x.take k)+1000000000^k*br):val o=val x-val y:=by
 subst hk;have hlt:=iG o hbo;have hx0:=iG x hx;rw[cZ (l:=o) ω,cZ (l:=y) ω,cZ (l:=x) ω]at hv;rw[ho]at hlt;exact Sm hx0 hv hle hlt
theorem Un{o x y:List Nat}{k br:Nat}(hbo:Lb o)(hx:Lb x)(ho:o.length=x.length)(hk:k=x.length)(hy:y.length<=x.length)(hle:val y<=val x)(hv:val (o.take k)+val (y.take k)=val (x.take k)+1000000000^k*br):aW [AV.c (dB (aG o))]=AV.c (dB (lim (val x-val y))) :=
 lE (by rw[<-Fz hbo hx ho hk hy hle hv,kQ _ hbo])
theorem Gp{o a b:List Nat}{i:Nat}(ho:o.length=a.length+b.length)(hi:i=a.length)(hv:val (o.take (i+b.length))=val (a.take i)*val b):val o=val a*val b:=by
 subst hi;rw[cZ (l:=o) ω,cZ (l:=a) ω]at hv;exact hv
theorem Q9(la lb:Nat)(a b:List Nat):val ((List.replicate (la+lb) 0).take (0+lb))=val (a.take 0)*val b:=by
 rw[List.take_replicate,vU];simp[val]
theorem yU{i k:Nat}:((i:Int)+(k:Int)).toNat=i+k:=ω
theorem aaL{a o:List Nat}{b r:Nat}(h0:0<b)(hr:r<b)(ho:o.length=a.length)(hb:Lb o)(hv:val (a.drop 0)=b*val (o.drop 0)+r):
 aW [AV.c (dB o),AV.c (.sl 1 [[Cell.v (.int .u32 ((r:Nat):Int))]])]=AV.tup [AV.c (dB (pad a.length (val a/b))),AV.c (dB [val a%b])]:=by
 rw[UW,UW]at hv;have h1:val a/b=val o:=by rw[hv,Gx,Nat.add_comm,Nat.add_mul_div_right _ _ h0,Nat.div_eq_of_lt hr,uY]
 have h2:val a%b=r:=by rw[hv,Nat.mul_add_mod,YT hr]
 rw[h1,h2,<-OZ hb ho rfl];rfl
theorem SH{n:Nat}(h:n<1000000000000000000000000000){x y z:Int}(hx:x=((n%1000000000:Nat):Int))(hy:y=((n/1000000000%1000000000:Nat):Int))(hz:z=((n/1000000000/1000000000:Nat):Int)):
 aW [AV.c (.sl 1 [[Cell.v (.int .u32 x)],[Cell.v (.int .u32 y)],[Cell.v (.int .u32 z)]])]=AV.c (dB (pad 3 n)):=by
 subst hx hy hz;refine cE ?_;simp only[pad];rw[show n/1000000000/1000000000%1000000000=n/1000000000/1000000000 by omega];rfl
theorem YC{n:Nat}(h:n<18446744073709551616):(lim n).length<=3:=kY ω
theorem NG{n m:Nat}{o:List Nat}(h:m<=n/\lim n=o++lim m)(h0:0<m):m/1000000000<=n/\lim n=(o++[m%1000000000])++lim (m/1000000000):=by
 refine⟨fZ (OU _ _) h.1, ?_⟩;rw[h.2,sS (by omega:m≠0)];simp
theorem UF{n m:Nat}{o:List Nat}(h:m<=n/\lim n=o++lim m)(h0:m=0):aW [AV.c (dB o)]=AV.c (dB (lim n)):=lE (by rw[h.2,h0,kM,EG])
theorem Si{n m:Nat}{o:List Nat}(hn:n<18446744073709551616)(h:m<=n/\lim n=o++lim m)(h0:0<m):o.length+1<=3:=by
 have h1:=congrArg List.length h.2;have h2:=YC hn;rw[sS (by omega:m≠0)]at h1;simp at h1;omega
theorem aeu{a:Int}(h:(lim a.natAbs).length=0):aW [AV.c (Cell.v (.int .u64 0)),AV.c (Cell.v (.bool true))]=AV.tup [.int .u64 ((if sz a<=2 then a.natAbs else 0:Nat):Int),.bool (decide (sz a<=2))]:=by
 have h1:sz a<=2:=by unfold sz;omega
 rw[if_pos h1,decide_eq_true h1,eH.1 h];rfl
theorem aeN{a:Int}{x:Int}(h:(lim a.natAbs).length=1)(hx:x=(((lim a.natAbs).getD 0 0:Nat):Int)):aW [AV.c (Cell.v (.int .u64 x)),AV.c (Cell.v (.bool true))]=AV.tup [.int .u64 ((if sz a<=2 then a.natAbs else 0:Nat):Int),.bool (decide (sz a<=2))]:=by
 have h1:sz a<=2:=by unfold sz;omega
 rw[if_pos h1,decide_eq_true h1,hx,ZQ h];rfl
theorem aee{a:Int}{x:Int}(h:(lim a.natAbs).length=2)(hx:x=(((lim a.natAbs).getD 1 0*1000000000+(lim a.natAbs).getD 0 0:Nat):Int)):aW [AV.c (Cell.v (.int .u64 x)),AV.c (Cell.v (.bool true))]=AV.tup [.int .u64 ((if sz a<=2 then a.natAbs else 0:Nat):Int),.bool (decide (sz a<=2))]:=by
 have h1:sz a<=2:=by unfold sz;omega
 rw[if_pos h1,decide_eq_true h1,hx,aaO h];rfl
theorem aeZ{a:Int}(h:2<(lim a.natAbs).length):aW [AV.c (Cell.v (.int .u64 0)),AV.c (Cell.v (.bool false))]=AV.tup [.int .u64 ((if sz a<=2 then a.natAbs else 0:Nat):Int),.bool (decide (sz a<=2))]:=by
 have h1:¬sz a<=2:=by unfold sz;omega
 rw[if_neg h1,decide_eq_false h1];rfl
theorem Qx:Int.toNat 0=0:=rfl
theorem P9:Int.toNat 1=1:=rfl
theorem Gw(r g:Nat):((r:Int)*1000000000+(g:Int))=((r*1000000000+g:Nat):Int):=ω
theorem MW(t b:Nat):(t:Int)/(b:Int)=((t/b:Nat):Int):=rfl
theorem NH(t b:Nat):(t:Int)%(b:Int)=((t%b:Nat):Int):=rfl
theorem U6{a:List Nat}{b:Nat}(ha:Lb a)(h0:0<b)(h1:b<1000000000):Lb (pad a.length (val a/b))/\Lb [val a%b]/\val a=b*val (pad a.length (val a/b))+val [val a%b]/\val [val a%b]<b/\(pad a.length (val a/b)).length=a.length/\[val a%b].length=1:=by
 have hm:=qx (val a) h0;have hv:val [val a%b]=val a%b:=by simp[val]
 refine⟨lW _ _,Lb.cons ω Lb.nil, ?_,by rw[hv];exact hm,Rq _ _,rfl⟩;rw[nI _ _ (Nat.lt_of_le_of_lt (OU _ _) (iG a ha)),hv,Nat.div_add_mod]
def U8(b:List Nat):Nat:=1000000000/((aG b).getD ((aG b).length-1) 0+1)
def Zx(a b:List Nat):Nat:=if(aG b).length=1 then(aG a).length else if val a<val b then 0 else(aG a).length+2-(aG b).length
def Ya(a b:List Nat):Nat:=if(aG b).length=1 then 1 else if val a<val b then(aG a).length else(lim (val a%val b*U8 b)).length
theorem afL{a b U:List Nat}{n q rs:Nat}(hb:Lb U)(hv:val (U.take n)=val U)(h1:val a*U8 b=val b*U8 b*q+val U)(h2:val a=val b*q+rs)(h3:rs<val b):(aG (U.take n)).length=(lim (val a%val b*U8 b)).length:=by
 have e1:val a%val b=rs:=by rw[h2,Nat.mul_add_mod,YT h3]
 have e2:val U=rs*U8 b:=by
  rw[h2,Nat.add_mul]at h1;have:val b*q*U8 b=val b*U8 b*q:=ν
  omega
 rw[e1,<-e2,<-hv,kQ _ (hb.take n)]
theorem aac{b:List Nat}(hb:Lb b):0<U8 b:=by
 have:=(pK hb).getD ((aG b).length-1);unfold U8;exact Nat.div_pos ω ω
theorem aeP{a b:List Nat}(ha:Lb a)(hb:Lb b)(h0:0<val b):val (pad (Zx a b) (val a/val b))=val a/val b:=by
 refine nI _ _ ?_;have hva:=iG _ (pK ha);rw[gQ]at hva;unfold Zx;split
 .exact Nat.lt_of_le_of_lt (OU _ _) hva
 .split
  .rw[Nat.div_eq_of_lt ξ];decide
  .rename_i h1 h2;have hne:aG b≠[]:=λe=>by have:=gQ b;rw[e]at this;simp[val]at this;omega
   have hp:=IC (gY hb) hne;rw[gQ]at hp;have hl:0<(aG b).length:=List.length_pos_iff.2 hne
   have hle:(aG b).length<=(aG a).length:=by
    rcases Ju (aG a).length (aG b).length with h|h
    .have:=jk (gY ha) (gY hb) h;rw[gQ,gQ]at this;omega
    .exact h
   rw[Nat.div_lt_iff_lt_mul h0];refine Ea hva (fZ ?_ (Ie _ hp));rw[<-Nat.pow_add];exact Gi ψ ω
theorem afN{a b:List Nat}(ha:Lb a)(hb:Lb b)(h0:0<val b):val (pad (Ya a b) (val a%val b))=val a%val b:=by
 refine nI _ _ ?_;have hm:=qx (val a) h0;have hvb:=iG _ (pK hb);have hva:=iG _ (pK ha);rw[gQ]at hva hvb;unfold Ya;split
 .rename_i h;rw[h]at hvb;omega
 .split
  .exact Nat.lt_of_le_of_lt (Nat.mod_le _ _) hva
  .have:=iG _ (bJ (val a%val b*U8 b));rw[aX]at this;exact Nat.lt_of_le_of_lt (Nat.le_mul_of_pos_right _ (aac hb)) this
end Go.Sw
namespace Go.Proofs.YtdpkjhnfklkkjaaGreat
open Go Go.RowKit Go.Sw Go.Proofs.Tryz
set_option maxRecDepth 100000
set_option maxHeartbeats 16000000
instance amq(l:List Nat):DenI prog 314 [.c (dB l)] (True) (.c (dB (aG l))):=⟨λhp=>by
 refine iJ ζ (λhl=>?_);simp only[qL,nX,cellsOf,bW,and_true,true_and]at hl
 all_goals refine aS func314 rfl ?_
 all_goals first
  |((conv=>whnf);refine Sw.Loop.inv (α:=Nat) (λx=>[(0,.c (dB (l.take x)))]) (λx=>[]) (λx=>x<=l.length/\∀j,x<=j->l.getD j 0=0) (λx=>x) l.length ?_ ?_ ?_ (λx hx=>?_))
 all_goals(repeat'((try(conv=>whnf));first
  |(with_reducible first|refine aN ?_|refine aI ?_|refine aO (λ_=>?_) (λ_=>?_))|refine aH ?_ ?_|(with_reducible refine au ?_ ?_)|apply zaa))
 all_goals(try apply zab)
 all_goals first|(show SubE _ _;repeat'(first|exact trivial|refine And.intro ?_ ?_))|(show SubB _ _;repeat'(first|exact trivial|refine And.intro ?_ ?_))|skip
 all_goals(try simp(disch:=omega) only[bW,xB,dI,AO,bG,dO,wu64,zO,jB,Uo,kR,kS]at *)
 all_goals first
  |(rw[oU];rfl)|exact⟨jg _,λj hj=>getD_none hj⟩|exact xM hx (.inl ω)|exact xM hx (.inr ω)|((conv=>whnf);exact⟨x-1,⟨⟨ahD hx.1 ω (by simp only[Bd];omega),trivial⟩,⟨⟩,⟨ω,zy hx.2 (take_zero ω ω)⟩,by show x-1<x;omega⟩⟩)|exact zar⟩
instance ajp(l:List Nat):DenI prog 254 [.c (dB l)] (True) (.c (dB (aG l))):=⟨λhp=>by
 refine iJ ζ (λhl=>?_);simp only[qL,nX,cellsOf,bW,and_true,true_and]at hl
 all_goals refine aS func254 rfl ?_
 all_goals first
  |((conv=>whnf);refine Sw.Loop.inv (α:=Nat) (λx=>[(0,.c (dB (l.take x)))]) (λx=>[]) (λx=>x<=l.length/\∀j,x<=j->l.getD j 0=0) (λx=>x) l.length ?_ ?_ ?_ (λx hx=>?_))
 all_goals(repeat'((try(conv=>whnf));first
  |(with_reducible first|refine aN ?_|refine aI ?_|refine aO (λ_=>?_) (λ_=>?_))|refine aH ?_ ?_|(with_reducible refine au ?_ ?_)|apply zaa))
 all_goals(try apply zab)
 all_goals first|(show SubE _ _;repeat'(first|exact trivial|refine And.intro ?_ ?_))|(show SubB _ _;repeat'(first|exact trivial|refine And.intro ?_ ?_))|skip
 all_goals(try simp(disch:=omega) only[bW,xB,dI,AO,bG,dO,wu64,zO,jB,Uo,kR,kS]at *)
 all_goals first
  |(rw[oU];rfl)|exact⟨jg _,λj hj=>getD_none hj⟩|exact xM hx (.inl ω)|exact xM hx (.inr ω)|((conv=>whnf);exact⟨x-1,⟨⟨ahD hx.1 ω (by simp only[Bd];omega),trivial⟩,⟨⟩,⟨ω,zy hx.2 (take_zero ω ω)⟩,by show x-1<x;omega⟩⟩)|exact zar⟩
instance agD(neg:Bool)(l:List Nat):DenI prog 213 [.bool neg,.c (dB l)] (Lb l) (Z (gW neg (val l))):=⟨λhp=>by
 refine iJ ζ (λhl=>?_);simp only[qL,nX,cellsOf,bW,and_true,true_and]at hl
 all_goals refine aS func213 rfl ?_
 all_goals first
  |((conv=>whnf);refine Sw.Loop.inv (α:=Nat) (λx=>[(0,.bool neg),(1,.c (dB l)),(4,.ptr 4 0),(5,.int .i64 x)]) (λx=>[(4,.var [.v (.bool false),.sl 1 []])]) (λx=>x<=l.length/\∀j,x<=j->l.getD j 0=0) (λx=>x) l.length ?_ ?_ ?_ (λx hx=>?_))
 all_goals(repeat'((try(conv=>whnf));first
  |(with_reducible first|refine aN ?_|refine aI ?_|refine aO (λ_=>?_) (λ_=>?_))|refine zad (λ_=>?_) (λ_=>?_)|refine aH ?_ ?_|(with_reducible refine au ?_ ?_)|apply zaa))
 all_goals(try apply zab)
 all_goals first|(show SubE _ _;repeat'(first|exact trivial|refine And.intro ?_ ?_))|(show SubB _ _;repeat'(first|exact trivial|refine And.intro ?_ ?_))|skip
 all_goals(try rfl)
 all_goals(try simp(disch:=omega) only[bW,xB,dI,AO,bG,dO,wu64,zO,jB,Uo,kR,kS]at *)
 all_goals first
  |(subst neg;exact sg1 hp hx (.inl ω) rfl (by simp only[Bd];omega) rfl)|(subst neg;exact sg0 hp hx (.inl ω) rfl (by simp only[Bd];omega))|(subst neg;exact sg1 hp hx (.inr ω) rfl (by simp only[Bd];omega) rfl)|(subst neg;exact sg0 hp hx (.inr ω) rfl (by simp only[Bd];omega))|exact⟨jg _,λj hj=>getD_none hj⟩|rfl|((conv=>whnf);exact⟨x-1,⟨⟨rfl,rfl,rfl,afY ω ω,trivial⟩,⟨rfl,trivial⟩,⟨ω,zy hx.2 ω⟩,by show x-1<x;omega⟩⟩)|exact zar⟩
instance afT(neg:Bool)(l:List Nat):DenI prog 191 [.bool neg,.c (dB l)] (Lb l) (Z (gW neg (val l))):=⟨λhp=>by
 refine iJ ζ (λhl=>?_);simp only[qL,nX,cellsOf,bW,and_true,true_and]at hl
 all_goals refine aS func191 rfl ?_
 all_goals(repeat'((try(conv=>whnf));first
  |refine aC ?_|(with_reducible first|refine aN ?_|refine aI ?_)|refine zad (λ_=>?_) (λ_=>?_)|apply zaa))
 all_goals first
  |(subst neg;exact zE1 hp (by rw[bW]))|(subst neg;exact zE0 hp)⟩
instance afW(a b:List Nat):DenI prog 275 [.c (dB a),.c (dB b)] (Lb a/\Lb b) (.int .i64 (iy (val a) (val b))):=⟨λhp=>by
 refine iJ ζ (λhl=>?_);simp only[qL,nX,cellsOf,bW,and_true,true_and]at hl;have ha:=iq a;have hb:=iq b
 all_goals refine aS func275 rfl ?_
 all_goals(repeat'((try(conv=>whnf));first
  |refine aC ?_|(with_reducible first|refine aO (λ_=>?_) (λ_=>?_)|refine aP (λ_=>?_) (λ_=>?_))|apply zaa))
 all_goals first
  |((conv=>whnf);refine Sw.Loop.inv (α:=Nat) (λx=>[(0,.c (dB (aG a))),(1,.c (dB (aG b))),(5,.int .i64 ((x:Int)-1))]) (λx=>[]) (λx=>x<=(aG a).length/\∀j,x<=j->(aG a).getD j 0=(aG b).getD j 0) (λx=>x) ((aG a).length) ?_ ?_ ?_ (λx hx=>?_))|skip
 all_goals(repeat'((try(conv=>whnf));first
  |(with_reducible refine aO (λ_=>?_) (λ_=>?_))|refine zac ζ ?_|(with_reducible refine au ?_ ?_)|apply zaa))
 all_goals(try apply zab)
 all_goals first|(show SubE _ _;repeat'(first|exact trivial|refine And.intro ?_ ?_))|(show SubB _ _;repeat'(first|exact trivial|refine And.intro ?_ ?_))|skip
 all_goals(try rfl)
 all_goals(try simp(disch:=omega) only[bW,xB,dI,AO,bG,dO,wu64,zO,jB,Uo,kR,kS]at *)
 all_goals(try simp only[<-gQ a,<-gQ b])
 all_goals first
  |exact Qj (gY hp.1) (gY hp.2) ω|exact Qz (gY hp.1) (gY hp.2) ω|exact acP (gY hp.1) (gY hp.2) hx ω ω ω|exact ac1 (gY hp.1) (gY hp.2) hx ω ω ω|exact ado hx ω ω|exact fz2 ω|((conv=>whnf);exact⟨x-1,⟨⟨rfl,rfl,xu ω ω,trivial⟩,⟨⟩,⟨ω,agree_step hx.2 ω⟩,by show x-1<x;omega⟩⟩)|rfl|exact zar⟩
instance afw(a b:List Nat):DenI prog 231 [.c (dB a),.c (dB b)] (CanL a/\CanL b) (.int .i64 (iy (val a) (val b))):=⟨λhp=>by
 refine iJ ζ (λhl=>?_);simp only[qL,nX,cellsOf,bW,and_true,true_and]at hl
 all_goals refine aS func231 rfl ?_
 all_goals(repeat'((try(conv=>whnf));first
  |(with_reducible first|refine aO (λ_=>?_) (λ_=>?_)|refine aP (λ_=>?_) (λ_=>?_))|apply zaa))
 all_goals first
  |((conv=>whnf);refine Sw.Loop.inv (α:=Nat) (λx=>[(0,.c (dB (a))),(1,.c (dB (b))),(5,.int .i64 ((x:Int)-1))]) (λx=>[]) (λx=>x<=(a).length/\∀j,x<=j->(a).getD j 0=(b).getD j 0) (λx=>x) ((a).length) ?_ ?_ ?_ (λx hx=>?_))|skip
 all_goals(repeat'((try(conv=>whnf));first
  |(with_reducible refine aO (λ_=>?_) (λ_=>?_))|refine zac ζ ?_|(with_reducible refine au ?_ ?_)|apply zaa))
 all_goals(try apply zab)
 all_goals first|(show SubE _ _;repeat'(first|exact trivial|refine And.intro ?_ ?_))|(show SubB _ _;repeat'(first|exact trivial|refine And.intro ?_ ?_))|skip
 all_goals(try rfl)
 all_goals(try simp(disch:=omega) only[bW,xB,dI,AO,bG,dO,wu64,zO,jB,Uo,kR,kS]at *)
 all_goals first
  |exact Qj hp.1 hp.2 ω|exact Qz hp.1 hp.2 ω|exact acP hp.1 hp.2 hx ω ω ω|exact ac1 hp.1 hp.2 hx ω ω ω|exact ado hx ω ω|exact fz2 ω|((conv=>whnf);exact⟨x-1,⟨⟨rfl,rfl,xu ω ω,trivial⟩,⟨⟩,⟨ω,agree_step hx.2 ω⟩,by show x-1<x;omega⟩⟩)|rfl|exact zar⟩
end Go.Proofs.YtdpkjhnfklkkjaaGreat
