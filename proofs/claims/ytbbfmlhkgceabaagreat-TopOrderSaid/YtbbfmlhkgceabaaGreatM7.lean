/-
  A function's text: what the abstract run asks for is enough.
  Rules for proofs over the abstract run: loops, calls, integers.
  Arguments of any shape (numbers, truth values, strings, slices, structs, arrays), as they come in, stand for abstract values.
  What every row of this seat needs: closed facts of the program.
  The types that the program's texts name.
  No slice is longer than the machine counts.
  Fractions: lowest terms, sizes.
  Integers: the quotient and the root as the packages build them.
  Limbs as the functions build them.
  What the functions integer.trim, swarfref01.trim, integer.signed, swarfref01.signed answer, each out of its text by the abstract run.
  What the functions integer.compare, swarfref01.compare answer, each out of its text by the abstract run.
  Conditions: none.
-/
import Derived.Test.YtbbfmlhkgceabaaGreatM6
import Derived.OpenShut
import Derived.Lib.SmallJoins
import Derived.Test.YtbbfmlhkgceabaaGreatRows
import Derived.Test.YtbbfmlhkgceabaaGreatChecked
set_option linter.all false
namespace Go.Sw
open Go Go.RowKit
set_option linter.unusedVariables false
def Ex.x:Ex→Exit
 |.normal => .normal
 |.ret => .ret
 |.exit id => .exit id
theorem Ghs.none_(w0 w:World):Ghs w0 w [] (λ_=>none):=⟨λ_ _ _ h=>by simp at h,λ_ _ _ _ _ _ h=>by simp at h,λ_ _ _ _ _ _ h=>by simp at h⟩
section
variable {P:Program} [Wld P] [Kp] [Gr] {τ:Tab} {N:Nat} {w0:World} {X0:List Nat}
variable [hwo:WOk P w0]
def LW(P:Program)(c:Code)(Q:Exit→Act→World→Prop)(a:Act)(w:World):Prop:=∀b k cs,∃e a' w',Q e a' w'∧Arrives P (lone (b.at a (.code c :: .inLoop c :: k)) cs w) b k cs e a' w'
theorem LW.loop{c:Code}{Q:Exit→Act→World→Prop}{a:Act}{w:World}(h:LW P c Q a w):(Code.loop c).wp P Q a w:=by
 intro b k cs
 obtain ⟨e,a',w',hq,harr⟩:=h b k cs
 exact ⟨e,a',w',hq,.of_steps (.one step_loop) harr⟩
theorem LW.step{c:Code}{Q:Exit→Act→World→Prop}{a:Act}{w:World}(h:c.wp P (Exit.then (LW P c Q) Q) a w):LW P c Q a w:=by
 intro b k cs
 obtain ⟨e,a₁,w₁,hq,harr⟩:=h b (.inLoop c :: k) cs
 cases e with
 |normal =>
  obtain ⟨e₂,a₂,w₂,hq₂,harr₂⟩:=hq b k cs
  exact ⟨e₂,a₂,w₂,hq₂,.of_steps (Steps.trans harr (.one step_inLoop)) harr₂⟩
 |exit id=>exact ⟨_,a₁,w₁,hq,.pass (x:=.inLoop c) rfl (λ_ _ => .inl (by simp)) harr⟩
 |goto l=>exact ⟨_,a₁,w₁,hq,.pass (x:=.inLoop c) rfl (λ_ _ => .inl (by simp)) harr⟩
 |ret=>exact ⟨_,a₁,w₁,hq,.pass (x:=.inLoop c) rfl (λ_ _ => .inl (by simp)) harr⟩
 |panic ch=>exact ⟨_,a₁,w₁,hq,.pass (x:=.inLoop c) rfl (λ_ _ => .inl (by simp)) harr⟩
 |outgrown=>exact ⟨_,a₁,w₁,hq,.pass (x:=.inLoop c) rfl (λ_ _ => .inl (by simp)) harr⟩
theorem reg_ok{id:Nat}{ops:Array Oper}{dr:Bool}{QA:Ex→Env→Bxs→Prop}{Q:Exit→Act→World→Prop}{e:Env}{b:Bxs}{a:Act}{w:World}(hτ:tabOk P τ=true)(hm:P.follows .mixedOrders=true)(ht:textOk N (.region id ops dr)=true)(hc:Conc N w0 X0 e b a w)
 (hk:areg (Den P) τ dr ops.toList e b (QA .normal)) (hQ:∀e b a w,QA .normal e b→Conc N w0 X0 e b a w→Q .normal a w):(Code.region id ops dr).wp P Q a w:=by
 obtain ⟨l⟩:=ops
 simp only [textOk,Bool.and_eq_true] at ht
 cases dr with
 |false =>
  simp only [areg] at hk
  exact c_reg (aops_ok hτ hQ ht.1 hk hc)
 |true =>
  simp only [Bool.not_true,Bool.false_or,Bool.and_eq_true] at ht
  exact draw_ok hwo hτ hm ht.2.1 ht.2.2 ht.1 hc hk hQ
theorem SubE.get:∀{e₀ e:Env},SubE e₀ e→∀{t:Nat} {v:AV},ld t e₀=some v→ld t e=some v
 |[],e,_,t,v,h=>by simp [ld] at h
 |(s,u) :: r,e,hs,t,v,h=>by
  by_cases hst:s=t
  ·subst hst
   rw [ld_cons_self] at h
   cases h
   exact hs.1
  ·rw [ld_cons_ne _ _ hst] at h
   exact SubE.get hs.2 h
theorem SubB.get:∀{e₀ e:Bxs},SubB e₀ e→∀{t:Nat} {v:Bk},ld t e₀=some v→ld t e=some v
 |[],e,_,t,v,h=>by simp [ld] at h
 |(s,u) :: r,e,hs,t,v,h=>by
  by_cases hst:s=t
  ·subst hst
   rw [ld_cons_self] at h
   cases h
   exact hs.1
  ·rw [ld_cons_ne _ _ hst] at h
   exact SubB.get hs.2 h
theorem Conc.sub{e e':Env}{b b':Bxs}{a:Act}{w:World}(h:Conc N w0 X0 e' b' a w)(he:SubE e e')(hb:SubB b b'):Conc N w0 X0 e b a w:=by
 obtain ⟨S,M,h⟩:=h
 exact ⟨S,M,h.ms,h.x0,h.sz,h.df,λt v hv=>h.env t v (he.get hv),λi x hx=>h.box i x (hb.get hx)⟩
theorem Conc.ghost{e:Env}{b:Bxs}{a:Act}{w:World}{t i T s:Nat}(h:Conc N w0 X0 e b a w)(ht:ld t e=some (.c (.v (.slice none 0 0))))(hm:mention [i] e=false)(hi:ld i b=none)(hs:0<s)(hmb:mentionB [i] b=false):Conc N w0 X0 ((t,.gs i 0) :: e) ((i,.grow T s []) :: b) a w:=by
 obtain ⟨S,M,h⟩:=h
 refine ⟨S,M.set i ⟨false,true,none,T,s,0,0,[],none⟩,⟨h.ms.st,h.ms.gh.set (λx hx=>by cases hx) (λ_ _ _ _ _ _ _ h=>h) (λ_ _ _ h=>h) (λg' h1 h2=>by cases h2),λc mc hc hco gc hgc=>?_,λc c' mc mc' gc h1 h2 h3 h4 h5 h6=>?_⟩,h.x0,h.sz,h.df,λc v hv=>?_,λc x hx=>?_⟩
 ·by_cases hci:c=i
  ·subst hci;rw [MM.set_same] at hc;cases hc;cases hgc
  ·rw [MM.set_other _ _ hci] at hc;exact h.ms.inS c mc hc hco gc hgc
 ·by_cases hci:c=i
  ·subst hci;rw [MM.set_same] at h1;cases h1;cases h5
  ·by_cases hci':c'=i
   ·subst hci';rw [MM.set_same] at h2;cases h2;cases h6
   ·rw [MM.set_other _ _ hci] at h1
    rw [MM.set_other _ _ hci'] at h2
    exact h.ms.inj c c' mc mc' gc h1 h2 h3 h4 h5 h6
 ·by_cases hct:t=c
  ·subst hct
   rw [ld_cons_self] at hv
   cases hv
   refine .gs (MM.set_same _ _ _) rfl (Nat.le_refl _) (λ_=>?_) ?_
   ·exact (h.env _ _ ht).v_
   ·rw [(h.env _ _ ht).v_];exact ⟨_,_,rfl⟩
  ·rw [ld_cons_ne _ _ hct] at hv
   refine (h.env c v hv).ext (Ext.refl _ _) λj hj m hm'=>⟨m, ?_,Comp.refl m⟩
   have hne:j≠i:=λe=>by subst e;exact mention_no hm hv j hj (by simp)
   rw [MM.set_other _ _ hne];exact hm'
 ·by_cases hci:i=c
  ·subst hci
   rw [ld_cons_self] at hx
   cases hx
   exact ⟨_,MM.set_same _ _ _,rfl,rfl,rfl,⟨rfl,hs⟩,rfl,.inl ⟨rfl,rfl,rfl⟩⟩
  ·rw [ld_cons_ne _ _ hci] at hx
   obtain ⟨m,h1,h2⟩:=h.box c x hx
   exact ⟨m,by rw [MM.set_other _ _ (λe=>hci e.symm)];exact h1,h2.ext (Ext.refl _ _) λc hc mc hmc=>⟨mc,by rw [MM.set_other _ _ (λe=>by subst e;exact mentionB_no hmb _ x hx c hc (by simp))];exact hmc,Comp.refl mc⟩⟩
theorem awp_ok(hτ:tabOk P τ=true)(hm:P.follows .mixedOrders=true):∀(c:Code) {QA:Ex→Env→Bxs→Prop} {Q:Exit→Act→World→Prop} {e:Env} {b:Bxs} {a:Act} {w:World},textOk N c=true→awp (Den P) τ c QA e b→Conc N w0 X0 e b a w →
 (∀x e b a w,QA x e b→Conc N w0 X0 e b a w→Q x.x a w)→c.wp P Q a w
 |.skip,QA,Q,e,b,a,w,_,hk,hc,hQ=>c_skip (hQ .normal _ _ _ _ hk hc)
 |.ret,QA,Q,e,b,a,w,_,hk,hc,hQ=>c_ret (hQ .ret _ _ _ _ hk hc)
 |.exit id,QA,Q,e,b,a,w,_,hk,hc,hQ=>c_exit (hQ (.exit id) _ _ _ _ hk hc)
 |.region id ops dr,QA,Q,e,b,a,w,ht,hk,hc,hQ=>by
  simp only [awp] at hk
  split at hk
  ·exact reg_ok (QA:=QA) hτ hm ht hc hk (λe b a w h1 h2=>hQ .normal _ _ _ _ h1 h2)
  ·rename_i t i n hp
   obtain ⟨S,M,h⟩:=hc
   have hl:ld t e=some (.gs i n):=by
    unfold preF at hp
    split at hp
    ·split at hp
     ·split at hp
      ·rename_i hl;cases hp;exact hl
      ·cases hp
     ·cases hp
    ·cases hp
   obtain ⟨v',f,S',M',h1,h2,h3,h4,_⟩:=argK_ok' h (h.env t _ hl) hk
   have h5:=h.chg h2 h3
   refine reg_ok (QA:=QA) hτ hm ht ⟨S',M',h5.ms,h5.x0,h5.sz,h5.df,λs x hx=>?_,h5.box⟩ h1 (λe b a w h1 h2=>hQ .normal _ _ _ _ h1 h2)
   by_cases hs:t=s
   ·subst hs
    rw [ld_cons_self] at hx
    cases hx
    exact .d h4
   ·rw [ld_cons_ne _ _ hs] at hx
    exact h5.env s x hx
 |.seq x y,QA,Q,e,b,a,w,ht,hk,hc,hQ=>by
  simp only [textOk,Bool.and_eq_true] at ht
  refine c_seq (awp_ok hτ hm x ht.1 hk hc λz e b a w hz hc=>?_)
  cases z with
  |normal=>exact x_tn (awp_ok hτ hm y ht.2 hz hc hQ)
  |ret=>exact x_tr (hQ .ret _ _ _ _ hz hc)
  |exit id=>exact x_te (hQ (.exit id) _ _ _ _ hz hc)
 |.cond c x y,QA,Q,e,b,a,w,ht,hk,hc,hQ=>by
  simp only [textOk,Bool.and_eq_true] at ht
  simp only [awp] at hk
  split at hk
  ·rename_i p hp
   obtain ⟨S,M,h⟩:=hc
   refine wp_cond_split ((h.ev hp).v_) (λhp1=>?_) (λhp1=>?_)
   ·subst hp1
    exact awp_ok hτ hm x ht.1 (hk.t rfl) ⟨S,M,h⟩ hQ
   ·subst hp1
    exact awp_ok hτ hm y ht.2 (hk.f rfl) ⟨S,M,h⟩ hQ
  ·cases hk
 |.block id x,QA,Q,e,b,a,w,ht,hk,hc,hQ=>by
  simp only [textOk] at ht
  refine c_block (awp_ok hτ hm x ht hk hc λz e b a w hz hc=>?_)
  cases z with
  |normal=>exact x_bn (hQ .normal _ _ _ _ hz hc)
  |ret=>exact x_br (hQ .ret _ _ _ _ hz hc)
  |exit i =>
   simp only at hz
   cases hi:Nat.beq i id with
   |true =>
    rw [hi] at hz
    have:=Nat.eq_of_beq_eq_true hi
    subst this
    exact x_bh (hQ .normal _ _ _ _ hz hc)
   |false =>
    rw [hi] at hz
    exact x_bm hi (hQ (.exit i) _ _ _ _ hz hc)
 |.loop x,QA,Q,e,b,a,w,ht,hk,hc,hQ=>by
  simp only [textOk] at ht
  obtain ⟨hwl⟩:=hk
  refine LW.loop (hwl (λe b=>∀a w,Conc N w0 X0 e b a w→LW P x Q a w) (λe b hF a w hc=>?_) (λe b e' b' hI he hb a w hc=>hI a w (hc.sub he hb)) (λe b t i T s hI h1 h2 h3 h4 h5 a w hc=>hI a w (hc.ghost h1 h2 h3 h4 h5)) a w hc)
  refine LW.step (awp_ok hτ hm x ht hF hc λz e b a w hz hc=>?_)
  cases z with
  |normal=>exact x_tn (hz a w hc)
  |ret=>exact x_tr (hQ .ret _ _ _ _ hz hc)
  |exit id=>exact x_te (hQ (.exit id) _ _ _ _ hz hc)
 |.rangeFunc _ _ _ _,QA,Q,e,b,a,w,_,hk,hc,hQ=>False.elim hk
 |.scope _,QA,Q,e,b,a,w,_,hk,hc,hQ=>False.elim hk
 |.label _,QA,Q,e,b,a,w,_,hk,hc,hQ=>False.elim hk
 |.goto _,QA,Q,e,b,a,w,_,hk,hc,hQ=>False.elim hk
 |.refuse _,QA,Q,e,b,a,w,_,hk,hc,hQ=>False.elim hk
theorem ld_argE:∀(xs:List AV) (i t:Nat) (v:AV),ld t (argE i xs)=some v→i≤t∧xs[t-i]?=some v
 |[],_,_,_,h=>by simp [argE,ld] at h
 |u :: r,i,t,v,h=>by
  simp only [argE] at h
  by_cases e:i=t
  ·subst e
   rw [ld_cons_self] at h
   cases h
   simp
  ·rw [ld_cons_ne _ _ e] at h
   obtain ⟨h1,h2⟩:=ld_argE r (i+1) t v h
   refine ⟨by omega, ?_⟩
   rw [show t-i=(t-(i+1))+1 by omega]
   simpa using h2
theorem ld_var{X:List Nat}{M:MM}{w:World}{t:TypeId}{ti:TI}{ad:Addr}{us:List Value}{cs:List Cell}{v:AV}(ht:tiOk P t ti=true)(hm:Mem w ad us)(hr:RepL w X us cs)(hv:rdAs ti cs=some v):
 ∃u,(loadVar t ad).run P w=.ok u w∧RepV w X M u v:=by
 obtain ⟨u,hu,hR⟩:=ex_ld (M:=M) (ρ:=λ_ => .pointer (some ad)) (d:=none) (ty:=0) (pos := "") (af:=#[]) (gd:=none) (x:=.tmp 0) ht rfl hm hr hv
 refine ⟨u, ?_,hR⟩
 simp only [execOp,Instr.loadAt,Instr.sureAddr,Sem.run_bind,Sem.run_pure,Result.andThen_ok] at hu
 cases hl:(loadVar t ad).run P w with
 |ok u' w1=>rw [hl] at hu;simp at hu;rw [hu.1,hu.2]
 |halt u' w1=>rw [hl] at hu;simp at hu
theorem rdAs_data{w:World}{X:List Nat}{M:MM}{u:Value}{ti:TI}{cs:List Cell}{v:AV}(hv:rdAs ti cs=some v)(h:RepV w X M u v):RepD w X u v:=by
 have hd:(∃x,v=.c x)∨∃l,v=.agg l:=by
  cases ti<;>simp only [rdAs] at hv<;>first|(simp at hv;done)|(split at hv<;>cases hv<;>first|exact .inl ⟨_,rfl⟩|exact .inr ⟨_,rfl⟩)
 rcases hd with ⟨x,rfl⟩|⟨l,rfl⟩
 ·cases h with
  |d h=>exact h
 ·cases h with
  |d h=>exact h
theorem resK_ok{S:List Bx}{M:MM}{a:Act}{w:World}{e:Env}{b:Bxs}{r:ResultVar}{k:AV→Prop}(hτ:tabOk P τ=true)(h:Sta N w0 X0 S M a w e b)(hk:resK τ e b r k):∃u v,k v∧(resRun a.tmps r).run P w=.ok u w∧RepD w X0 u v:=by
 unfold resK at hk
 cases r with
 |tmp t =>
  simp only at hk
  cases ht:ld t e with
  |none=>simp [ht] at hk
  |some v =>
   simp only [ht] at hk
   obtain ⟨v',f,S',M',h1,h2,h3,h4,h5⟩:=argK_ok' h (h.env t v ht) hk
   exact ⟨_,v',h1,rfl,h4.ext (Ext.drop λx hx=>List.mem_append_right _ hx)⟩
 |cell c t =>
  simp only at hk
  split at hk
  ·rename_i ti i ht hc
   split at hk
   ·rename_i cs hb
    split at hk
    ·rename_i v hv
     obtain ⟨m,g,hm,hvv,hg,hxe⟩:=(h.env c _ hc).ptr_
     obtain ⟨m',hm',h1,h2,⟨g',h3⟩,h4⟩:=h.box i _ hb
     rw [hm] at hm'
     cases hm'
     obtain ⟨u,hu,hR⟩:=ld_var (M:=M) (tab_at hτ ht) (Mem.of_row (h.row hm h2 hg)) h4 hv
     refine ⟨u,v,hk, ?_,(rdAs_data hv hR).ext (Ext.drop λx hx=>List.mem_append_right _ hx)⟩
     simp only [resRun,hxe,asAddr,Sem.run_bind,Sem.run_pure,Result.andThen_ok]
     rw [hu]
    ·cases hk
   ·cases hk
  ·cases hk
theorem ressK_ok{S:List Bx}{M:MM}{a:Act}{w:World}{e:Env}{b:Bxs}(hτ:tabOk P τ=true)(h:Sta N w0 X0 S M a w e b):∀{l:List ResultVar} {k:List AV→Prop},ressK τ e b l k→∃us vs,k vs∧(l.mapM (resRun a.tmps)).run P w=.ok us w∧us.length=vs.length∧∀(i:Nat) u v,us[i]?=some u→vs[i]?=some v→RepD w X0 u v
 |[],k,hk=>⟨[],[],hk,by simp,rfl,λi u v h=>by simp at h⟩
 |r :: l,k,hk=>by
  simp only [ressK] at hk
  obtain ⟨u,v,h1,h2,h3⟩:=resK_ok hτ h hk
  obtain ⟨us,vs,q1,q2,q3,q4⟩:=ressK_ok hτ h h1
  refine ⟨u :: us,v :: vs,q1, ?_,by simp [q3],λi x y hx hy=>?_⟩
  ·rw [List.mapM_cons,Sem.run_bind,h2]
   simp only [Result.andThen_ok,Sem.run_bind,q2,Sem.run_pure]
  ·cases i with
   |zero=>simp at hx hy;subst hx hy;exact h3
   |succ i=>exact q4 i x y (by simpa using hx) (by simpa using hy)
theorem pack_ok{w:World}{us:List Value}{vs:List AV}(hl:us.length=vs.length)(h:∀(i:Nat) u v,us[i]?=some u→vs[i]?=some v→RepD w X0 u v):RepR w X0 (if h:us.toArray.size=1 then us.toArray[0] else .tuple us.toArray) (packA vs):=by
 match us,vs,hl with
 |[],[],_=>exact .tup rfl λi u v h=>by simp at h
 |[u],[v],_=>exact .d (h 0 u v rfl rfl)
 |u :: u' :: us,v :: v' :: vs,hl=>exact .tup hl h
end
section
variable {P:Program} [Wld P] {τ:Tab} {N:Nat} {w0:World} {X0:List Nat}
variable [hwo:WOk P w0]
theorem args_conc{N:Nat}{w:World}{X:List Nat}{xs:List AV}{vs:List Value}{a:Act}(hX:∀m∈X,m<w.heap.size)(hl:vs.length=xs.length)(hR:∀(i:Nat) u v,vs[i]?=some u→xs[i]?=some v→RepD w X u v)(hF:Frm N a (argL 0 vs)):Conc N w X (argE 0 xs) [] a w:=by
 refine ⟨[],λ_=>none,⟨StG.refl w,Ghs.none_ _ _,λ_ _ h=>(by cases h),λ_ _ _ _ _ h=>(by cases h)⟩,λm hm=>⟨hX m hm,gr_no m⟩,hF.size,⟨⟨hF.defers,λ_ _ h=>nomatch h⟩,λ_ _ h=>nomatch h⟩,λt v hv=>?_,λi x h=>(by simp [ld] at h)⟩
 obtain ⟨_,h2⟩:=ld_argE xs 0 t v hv
 simp only [Nat.sub_zero] at h2
 have hlt:t<vs.length:=by rw [hl];exact (List.getElem?_eq_some_iff.1 h2).1
 have h3:vs[t]?=some vs[t]:=List.getElem?_eq_getElem hlt
 have h4:=hF.get t vs[t] (by
  have:∀(vs:List Value) (i t:Nat) u,vs[t]?=some u→lk (i+t) (argL i vs)=some u:=by
   intro vs
   induction vs with
   |nil=>intro i t u h;simp at h
   |cons x r ih =>
    intro i t u h
    cases t with
    |zero=>simp at h;subst h;simp [argL,lk]
    |succ t =>
     simp only [argL,lk]
     rw [beq_no (by omega)]
     have:=ih (i+1) t u (by simpa using h)
     rw [show i+1+t=i+(t+1) by omega] at this
     exact this
  have:=this vs 0 t _ h3
  rwa [Nat.zero_add] at this)
 rw [h4]
 exact .d (hR t _ v h3 h2)
theorem den_of{f:FuncId}{fn:Func}{c:Code}{xs:List AV}{r:AV}(hτ:tabOk P τ=true)(hm:P.follows .mixedOrders=true)(hf:P.funcs[f]?=some fn)(hb:fn.body=some c)(hbody:hasBody P f=true)(ht:textOk fn.ntmps c=true)(hle:Nat.ble xs.length fn.ntmps=true)
 (h:awp (Den P) τ c (endA τ fn r) (argE 0 xs) []) (hn:noTup xs=true:=by rfl):Den P f xs r:=by
 refine Den.of ⟨hbody,λw X vs ho hX hl hR=>?_⟩ hn
 haveI:WOk P w:=.of ho
 refine enter hf hb rfl (by rw [hl];exact hle) λa hF=>?_
 have hc:Conc fn.ntmps w X (argE 0 xs) [] a w:=by
  refine ⟨[],λ_=>none,⟨StG.refl w,Ghs.none_ _ _,λ_ _ h=>(by cases h),λ_ _ _ _ _ h=>(by cases h)⟩,λm hm=>⟨hX m hm,gr_no m⟩,hF.size,⟨⟨hF.defers,λ_ _ h=>nomatch h⟩,λ_ _ h=>nomatch h⟩,λt v hv=>?_,λi x h=>(by simp [ld] at h)⟩
  obtain ⟨_,h2⟩:=ld_argE xs 0 t v hv
  simp only [Nat.sub_zero] at h2
  have hlt:t<vs.length:=by rw [hl];exact (List.getElem?_eq_some_iff.1 h2).1
  have h3:vs[t]?=some vs[t]:=List.getElem?_eq_getElem hlt
  have h4:=hF.get t vs[t] (by
   have:∀(vs:List Value) (i t:Nat) u,vs[t]?=some u→lk (i+t) (argL i vs)=some u:=by
    intro vs
    induction vs with
    |nil=>intro i t u h;simp at h
    |cons x r ih =>
     intro i t u h
     cases t with
     |zero=>simp at h;subst h;simp [argL,lk]
     |succ t =>
      simp only [argL,lk]
      rw [beq_no (by omega)]
      have:=ih (i+1) t u (by simpa using h)
      rw [show i+1+t=i+(t+1) by omega] at this
      exact this
   have:=this vs 0 t _ h3
   rwa [Nat.zero_add] at this)
  rw [h4]
  exact .d (hR t _ v h3 h2)
 refine awp_ok hτ hm c ht h hc λx e b a w' hx hc'=>?_
 obtain ⟨S,M,hs⟩:=hc'
 have fin:∀us vs,(fn.results.toList.mapM (resRun a.tmps)).run P w'=.ok us w'→us.length=vs.length→(∀(i:Nat) u v,us[i]?=some u→vs[i]?=some v→RepD w' X u v)→packA vs=r→a.defers=[]∧∃v,(results fn a.tmps).run P w'=.ok v w'∧Ret (λu w1=>RepF w.heap.size w1 X u r∧Below w.heap.size w w1) (.returned v) w':=by
  intro us vs h1 h2 h3 h4
  subst h4
  refine ⟨hs.df.1.1,_, ?_,_,rfl,(pack_ok h2 h3).f,hs.ms.st.below.b0⟩
  rw [run_results,Sem.run_bind,Array.mapM_eq_mapM_toList]
  simp [h1]
 cases x with
 |normal =>
  simp only [endA] at hx
  split at hx
  ·rename_i hr
   exact fin [] [] (by rw [hr];simp) rfl (λi u v h=>by simp at h) hx.eq
  ·cases hx
 |ret =>
  simp only [endA] at hx
  obtain ⟨us,vs,h1,h2,h3,h4⟩:=ressK_ok hτ hs hx
  exact fin us vs h2 h3 h4 h1.eq
 |exit id=>cases hx
inductive OwnR (P:Program) (w:World) (XX:List Nat) (M:MM) (a:Act) (b':Bxs):List ResultVar→List (Option AV)→List (Nat × Nat)→Prop where
 |nil:OwnR P w XX M a b' [] [] []
 |no {r l vs G} (t:OwnR P w XX M a b' l vs G):OwnR P w XX M a b' (r :: l) (none :: vs) G
 |own0 {r l vs G T s} (hr:(resRun a.tmps r).run P w=.ok (.slice none 0 0) w) (hs:0<s) (t:OwnR P w XX M a b' l vs G):OwnR P w XX M a b' (r :: l) (some (.own T s []) :: vs) G
 |own {r l vs G T s es id g m cap} {uss:List (List Value)} {rest:List Value} (hr:(resRun a.tmps r).run P w=.ok (.slice (some ⟨g,0,none⟩) es.length cap) w) (hs:0<s) (hg:w.heap[g]?=some (.cells (uss.flatten++rest).toArray T (0,0))) (hS:RepS w XX s uss es) (hc:cap*s=(uss.flatten++rest).length) (hm:cap≤maxLen) (hn:es.length≤cap)
  (hM:M id=some m) (ho:m.own=true) (hmg:m.g=some g) (hd:ld id b'=some .dead) (hid:id ∉ G.map (·.1)) (t:OwnR P w XX M a b' l vs G):OwnR P w XX M a b' (r :: l) (some (.own T s es) :: vs) ((id,g) :: G)
theorem OwnR.at{P:Program}{w:World}{XX:List Nat}{M:MM}{a:Act}{b':Bxs}{l:List ResultVar}{vs:List (Option AV)}{G:List (Nat × Nat)}(h:OwnR P w XX M a b' l vs G):∀p∈G,∃m,M p.1=some m∧m.own=true∧m.g=some p.2∧ld p.1 b'=some .dead:=by
 induction h with
 |nil=>intro p hp;cases hp
 |no t ih=>exact ih
 |own0 _ _ t ih=>exact ih
 |own hr hs hg hS hc hm hn hM ho hmg hd hid t ih =>
  intro p hp
  rcases List.mem_cons.1 hp with rfl|hp
  ·exact ⟨_,hM,ho,hmg,hd⟩
  ·exact ih p hp
theorem OwnR.nd{P:Program}{w:World}{XX:List Nat}{M:MM}{a:Act}{b':Bxs}{S:List Bx}(hms:MS w0 w S M){l:List ResultVar}{vs:List (Option AV)}{G:List (Nat × Nat)}(h:OwnR P w XX M a b' l vs G):(G.map (·.2)).Nodup:=by
 induction h with
 |nil=>exact List.nodup_nil
 |no t ih=>exact ih
 |own0 _ _ t ih=>exact ih
 |own hr hs hg hS hc hm hn hM ho hmg hd hid t ih =>
  simp only [List.map_cons,List.nodup_cons]
  refine ⟨λhm=>?_,ih⟩
  obtain ⟨p,hp,hpe⟩:=List.mem_map.1 hm
  obtain ⟨m',h1,h2,h3,_⟩:=t.at p hp
  have:=hms.inj _ _ _ _ _ hM h1 ho h2 hmg (hpe ▸ h3)
  exact hid (List.mem_map.2 ⟨p,hp,this.symm⟩)
theorem ownsK_ok{S:List Bx}{M:MM}{a:Act}{w:World}{e:Env}:∀{l:List ResultVar} {os:List (Option (TypeId × Nat))} {b:Bxs} {k:List (Option AV)→Bxs→Prop},Sta N w0 X0 S M a w e b→ownsK e l os b k →
 ∃vs b' G,k vs b'∧Sta N w0 X0 S M a w e b'∧(∀i,ld i b=some .dead→ld i b'=some .dead)∧OwnR P w (bl S++X0) M a b' l vs G∧∀p∈G,∃T s es,ld p.1 b=some (.grow T s es)
 |[],[],b,k,h,hk=>⟨[],b,[],hk,h,λ_ h=>h,.nil,λp hp=>by cases hp⟩
 |[],_ :: _,b,k,h,hk=>False.elim hk
 |.tmp _ :: _,[],b,k,h,hk=>False.elim hk
 |.cell _ _ :: _,[],b,k,h,hk=>False.elim hk
 |.cell _ _ :: _,some _ :: _,b,k,h,hk=>False.elim hk
 |.cell c t :: l,none :: os,b,k,h,hk=>by
  simp only [ownsK] at hk
  obtain ⟨vs,b',G,h1,h2,h3,h4,h5⟩:=ownsK_ok h hk
  exact ⟨_,b',G,h1,h2,h3,.no h4,h5⟩
 |.tmp t :: l,none :: os,b,k,h,hk=>by
  simp only [ownsK] at hk
  obtain ⟨vs,b',G,h1,h2,h3,h4,h5⟩:=ownsK_ok h hk
  exact ⟨_,b',G,h1,h2,h3,.no h4,h5⟩
 |.tmp t :: l,some (T,s) :: os,b,k,h,hk=>by
  simp only [ownsK] at hk
  split at hk
  ·rename_i i n ht
   split at hk
   ·rename_i T' s' es hb
    split at hk
    ·rename_i hT hs
     have:=Nat.eq_of_beq_eq_true hT
     subst this
     have:=Nat.eq_of_beq_eq_true hs
     subst this
     obtain ⟨hn,hk⟩:=hk
     rw [upK_eq] at hk
     obtain ⟨m,hm,q1,q2,q3,q4,q5,q6⟩:=h.box i _ hb
     have hsta:Sta N w0 X0 S M a w e (up i .dead b):=⟨h.ms,h.x0,h.sz,h.df,h.env,λc x hx=>by
      rw [ld_up] at hx
      split at hx
      ·rename_i hc;subst hc;cases hx;exact ⟨m,hm,trivial⟩
      ·exact h.box c x hx⟩
     obtain ⟨vs,b',G,h1,h2,h3,h4,h5⟩:=ownsK_ok hsta hk
     have hdead:ld i b'=some .dead:=h3 i (by rw [ld_up,if_pos rfl])
     have hold:∀c,ld c b=some .dead→ld c b'=some .dead:=λc hc=>h3 c (by
      rw [ld_up];split
      ·rfl
      ·exact hc)
     have h5':∀p∈G,p.1≠i∧∃T s es,ld p.1 b=some (.grow T s es):=λp hp=>by
      obtain ⟨T,s,es,h6⟩:=h5 p hp
      rw [ld_up] at h6
      split at h6
      ·cases h6
      ·rename_i hc;exact ⟨hc,T,s,es,h6⟩
     obtain ⟨m',hm',hvv,hh⟩:=(h.env t _ ht).gs_
     rw [hm] at hm'
     cases hm'
     have hval:=hh (by omega)
     rcases q6 with ⟨g1,rfl,g3⟩|⟨g,uss,rest,g1,g2,g3,g4,g5,g6⟩
     ·refine ⟨_,b',G,h1,h2,hold,.own0 ?_ q4.2 h4,λp hp=>(h5' p hp).2⟩
      simp only [resRun,hval,Sem.run_pure]
      unfold hdr
      rw [g1,g3,q5];rfl
     ·have hrow:=h.row hm q2 g1
      refine ⟨_,b',(i,g) :: G,h1,h2,hold,.own (m:=m) (cap:=m.cap) (uss:=uss) (rest:=rest) ?_ q4.2 (by rw [← q3,← g2];exact hrow) g3 (by rw [g4,g2]) g5 (by omega) hm q2 g1 hdead (λhc=>?_) h4,λp hp=>?_⟩
      ·simp only [resRun,hval,Sem.run_pure]
       unfold hdr
       rw [g1,q5];rfl
      ·obtain ⟨p,hp,hpe⟩:=List.mem_map.1 hc
       exact (h5' p hp).1 hpe
      ·rcases List.mem_cons.1 hp with rfl|hp
       ·exact ⟨_,_,_,hb⟩
       ·exact (h5' p hp).2
    ·cases hk
   ·cases hk
  ·rename_i ht
   split at hk
   ·rename_i hs
    obtain ⟨vs,b',G,h1,h2,h3,h4,h5⟩:=ownsK_ok h hk
    refine ⟨_,b',G,h1,h2,h3,.own0 ?_ (by simpa [Nat.blt_eq] using hs) h4,h5⟩
    simp only [resRun,(h.env t _ ht).v_,Sem.run_pure]
   ·cases hk
  ·cases hk
theorem resK_own{S:List Bx}{M:MM}{a:Act}{w:World}{e:Env}{b:Bxs}{r:ResultVar}{k:AV→Prop}{G:List (Nat × Nat)}(hG:∀p∈G,∃m,M p.1=some m∧m.own=true∧m.g=some p.2∧ld p.1 b=some .dead)(hτ:tabOk P τ=true)(h:Sta N w0 X0 S M a w e b)(hk:resK τ e b r k):
 ∃u v,k v∧(resRun a.tmps r).run P w=.ok u w∧RepD w (G.map (·.2)++X0) u v:=by
 have sub:∀{S':List Bx} {M':MM},MS w0 w S' M'→(∀p∈G,M' p.1=M p.1)→∀x∈G.map (·.2)++X0,x∈bl S'++X0:=by
  intro S' M' hms hM x hx
  rcases List.mem_append.1 hx with hx|hx
  ·obtain ⟨p,hp,rfl⟩:=List.mem_map.1 hx
   obtain ⟨m,h1,h2,h3,_⟩:=hG p hp
   exact List.mem_append_left _ (List.mem_map.2 ⟨_,hms.inS p.1 m ((hM p hp).trans h1) h2 p.2 h3,rfl⟩)
  ·exact List.mem_append_right _ hx
 unfold resK at hk
 cases r with
 |tmp t =>
  simp only at hk
  cases ht:ld t e with
  |none=>simp [ht] at hk
  |some v =>
   simp only [ht] at hk
   obtain ⟨v',f,S',M',h1,h2,h3,h4,h5⟩:=argK_ok' h (h.env t v ht) hk
   refine ⟨_,v',h1,rfl,h4.ext (Ext.drop (sub h2 λp hp=>h3.same p.1 λhm=>?_))⟩
   obtain ⟨q,hq,hqe⟩:=List.mem_map.1 hm
   obtain ⟨m,_,_,_,hd⟩:=hG p hp
   rcases (h5 q.1 q.2 hq).1 with ⟨T,s,es,h6⟩|⟨cs,h6⟩<;>rw [hqe,hd] at h6<;>cases h6
 |cell c t =>
  simp only at hk
  split at hk
  ·rename_i ti i ht hc
   split at hk
   ·rename_i cs hb
    split at hk
    ·rename_i v hv
     obtain ⟨m,g,hm,hvv,hg,hxe⟩:=(h.env c _ hc).ptr_
     obtain ⟨m',hm',h1,h2,⟨g',h3⟩,h4⟩:=h.box i _ hb
     rw [hm] at hm'
     cases hm'
     obtain ⟨u,hu,hR⟩:=ld_var (M:=M) (tab_at hτ ht) (Mem.of_row (h.row hm h2 hg)) h4 hv
     refine ⟨u,v,hk, ?_,(rdAs_data hv hR).ext (Ext.drop (sub h.ms λ_ _=>rfl))⟩
     simp only [resRun,hxe,asAddr,Sem.run_bind,Sem.run_pure,Result.andThen_ok]
     rw [hu]
    ·cases hk
   ·cases hk
  ·cases hk
theorem mixK_ok{S:List Bx}{M:MM}{a:Act}{w:World}{e:Env}{b:Bxs}{G0:List (Nat × Nat)}(hG:∀p∈G0,∃m,M p.1=some m∧m.own=true∧m.g=some p.2∧ld p.1 b=some .dead)(hτ:tabOk P τ=true)(h:Sta N w0 X0 S M a w e b){l:List ResultVar}{vs:List (Option AV)}{G:List (Nat × Nat)}
 (hO:OwnR P w (bl S++X0) M a b l vs G):∀{k:List AV→Prop},mixK τ e b l vs k→∃us vs',k vs'∧(l.mapM (resRun a.tmps)).run P w=.ok us w∧RepFs w (G0.map (·.2)++X0) us vs' (G.map (·.2)):=by
 have sub:∀x∈G0.map (·.2)++X0,x∈bl S++X0:=by
  intro x hx
  rcases List.mem_append.1 hx with hx|hx
  ·obtain ⟨p,hp,rfl⟩:=List.mem_map.1 hx
   obtain ⟨m,h1,h2,h3,_⟩:=hG p hp
   exact List.mem_append_left _ (List.mem_map.2 ⟨_,h.ms.inS p.1 m h1 h2 p.2 h3,rfl⟩)
  ·exact List.mem_append_right _ hx
 have step:∀{r:ResultVar} {l:List ResultVar} {u:Value} {us:List Value},(resRun a.tmps r).run P w=.ok u w→(l.mapM (resRun a.tmps)).run P w=.ok us w→((r :: l).mapM (resRun a.tmps)).run P w=.ok (u :: us) w:=by
  intro r l u us h1 h2
  rw [List.mapM_cons,Sem.run_bind,h1]
  simp only [Result.andThen_ok,Sem.run_bind,h2,Sem.run_pure]
 induction hO with
 |nil=>intro k hk;exact ⟨[],[],hk,by simp,.nil⟩
 |no t ih =>
  rename_i r l vs G
  intro k hk
  have hk:resK τ e b r λv=>mixK τ e b l vs λus=>k (v :: us):=by
   cases r<;>exact hk
  obtain ⟨u,v,h1,h2,h3⟩:=resK_own hG hτ h hk
  obtain ⟨us,vs',q1,q2,q3⟩:=ih h1
  exact ⟨_,_,q1,step h2 q2,.d h3 q3⟩
 |own0 hr hs t ih =>
  intro k hk
  simp only [mixK] at hk
  obtain ⟨us,vs',q1,q2,q3⟩:=ih hk
  exact ⟨_,_,q1,step hr q2,.own0 hs q3⟩
 |own hr hs hg hS hc hm hn hM ho hmg hd hid t ih =>
  intro k hk
  simp only [mixK] at hk
  obtain ⟨us,vs',q1,q2,q3⟩:=ih hk
  exact ⟨_,_,q1,step hr q2,.own hs hg (hS.ext (Ext.drop sub)) hc hm hn q3⟩
theorem packF{B:Nat}{w:World}{us:List Value}{vs:List AV}{G:List Nat}(h:RepFs w (G++X0) us vs G)(hB:∀g∈G,B≤g)(hnd:G.Nodup):RepF B w X0 (if h:us.toArray.size=1 then us.toArray[0] else .tuple us.toArray) (packA vs):=by
 have hlen:us.length=vs.length:=by
  generalize G++X0=XX at h
  clear hB hnd
  induction h<;>simp_all
 match us,vs,hlen,h with
 |[],[],_,h=>exact ⟨[],[],G,.inl ⟨rfl,rfl⟩,hB,hnd,h⟩
 |[u],[v],_,h =>
  refine ⟨[u],[v],G,.inr ⟨rfl,rfl, ?_⟩,hB,hnd,h⟩
  cases h with
  |d hd _=>exact hd.notTup
  |own0=>rfl
  |own=>rfl
 |u :: u' :: us,v :: v' :: vs,_,h=>exact ⟨_,_,G,.inl ⟨rfl,rfl⟩,hB,hnd,h⟩
end
end Go.Sw
namespace Go.Sw
open Go Go.RowKit
set_option linter.unusedVariables false
section
variable {D:FuncId→List AV→AV→Prop} {τ:Tab}
theorem aop_mono{o:Oper}{e:Env}{b:Bxs}{k k':AV→Bxs→Prop}(h:∀v f,k v f→k' v f)(hk:aop D τ o e b k):aop D τ o e b k':=by
 obtain ⟨v,f,h1,h2⟩:=aop_locl hk
 exact h2 e b k' ⟨λ_ _=>rfl,λ_ _=>rfl⟩ (h v f h1)
theorem NB_mono{ids:List Nat}{b:Bxs}{p q:Prop}(h:p→q)(hp:NB ids b p):NB ids b q:=by
 cases ids with
 |nil=>exact h hp
 |cons i r =>
  unfold NB at hp ⊢
  simp only at hp ⊢
  split at hp
  ·exact h hp
  ·exact hp
theorem aopg_mono{O:List Oper}{o:Oper}{e:Env}{b:Bxs}{k k':Env→AV→Bxs→Lg→Prop}(h:∀e v f l,k e v f l→k' e v f l)(hk:aopg D τ O o e b k):aopg D τ O o e b k':=by
 unfold aopg at hk ⊢
 cases hg:o.guard with
 |none=>simp only [hg] at hk;exact NB_mono (aop_mono (λv f q=>h _ _ _ _ q)) hk
 |some jw =>
  obtain ⟨j,want⟩:=jw
  simp only [hg] at hk ⊢
  cases hs:slotOf O j with
  |none=>simp [hs] at hk
  |some t =>
   simp only [hs] at hk ⊢
   have key:∀(q:Bool),(match q == want with
    |true=>NB (alO o) b (aop D τ o ((t,.bool q) :: e) b λv f=>k ((t,.bool q) :: e) v f (lgOf o ((t,.bool q) :: e) b v f))
    |false=>k ((t,.bool q) :: e) .bad [] ⟨[],[],[],[]⟩)→(match q == want with
    |true=>NB (alO o) b (aop D τ o ((t,.bool q) :: e) b λv f=>k' ((t,.bool q) :: e) v f (lgOf o ((t,.bool q) :: e) b v f))
    |false=>k' ((t,.bool q) :: e) .bad [] ⟨[],[],[],[]⟩):=by
    intro q hq
    cases hw:q == want with
    |true=>rw [hw] at hq;exact NB_mono (aop_mono (λv f q=>h _ _ _ _ q)) hq
    |false=>rw [hw] at hq;exact h _ _ _ _ hq
   split at hk
   ·exact ⟨λhp=>key _ (hk.t hp),λhp=>key _ (hk.f hp)⟩
   ·exact h _ _ _ _ hk
   ·cases hk
theorem aops_mono{O:List Oper}{k k':Env→Bxs→Prop}(h:∀e b,k e b→k' e b):∀{l:List Oper} {e:Env} {b:Bxs},aops D τ O l e b k→aops D τ O l e b k'
 |[],e,b,hk=>h e b hk
 |o :: r,e,b,hk=>by
  simp only [aops,putK_eq,upsK_eq] at hk ⊢
  exact aopg_mono (λe v f l q=>aops_mono h q) hk
theorem aopl_mono{O:List Oper}{k k':Env→Bxs→List Lg→Prop}(h:∀e b l,k e b l→k' e b l):∀{l:List Oper} {e:Env} {b:Bxs} {lg:List Lg},aopl D τ O l e b lg k→aopl D τ O l e b lg k'
 |[],e,b,lg,hk=>h e b lg hk
 |o :: r,e,b,lg,hk=>by
  simp only [aopl,apK_eq,upsK_eq] at hk ⊢
  exact aopg_mono (λe v f l q=>aopl_mono h q) hk
theorem areg_mono{dr:Bool}{O:List Oper}{e:Env}{b:Bxs}{k k':Env→Bxs→Prop}(h:∀e b,k e b→k' e b)(hk:areg D τ dr O e b k):areg D τ dr O e b k':=by
 cases dr with
 |false=>exact aops_mono h hk
 |true =>
  simp only [areg,prepK_eq] at hk ⊢
  exact NB_mono (aopl_mono λe b l q=>⟨q.ok,h e b q.k⟩) hk
theorem awp_mono:∀(c:Code) {Q Q':Ex→Env→Bxs→Prop} {e:Env} {b:Bxs},(∀z e b,Q z e b→Q' z e b)→awp D τ c Q e b→awp D τ c Q' e b
 |.skip,Q,Q',e,b,h,hk=>h _ _ _ hk
 |.ret,Q,Q',e,b,h,hk=>h _ _ _ hk
 |.exit id,Q,Q',e,b,h,hk=>h _ _ _ hk
 |.region id ops dr,Q,Q',e,b,h,hk=>by
  simp only [awp] at hk ⊢
  split at hk
  ·exact areg_mono (h .normal) hk
  ·obtain ⟨v,f,h1,h2⟩:=argK_loc hk
   exact h2 b _ (λ_ _=>rfl) (areg_mono (h .normal) h1)
 |.seq x y,Q,Q',e,b,h,hk=>awp_mono x (λz e b q=>by cases z<;>first|exact awp_mono y h q|exact h _ _ _ q) hk
 |.cond c x y,Q,Q',e,b,h,hk=>by
  simp only [awp] at hk ⊢
  split at hk
  ·rename_i p hp
   refine ⟨λh1=>?_,λh1=>?_⟩
   ·exact awp_mono x h (hk.t h1)
   ·exact awp_mono y h (hk.f h1)
  ·cases hk
 |.block id x,Q,Q',e,b,h,hk=>awp_mono x (λz e b q=>by
  cases z with
  |normal=>exact h _ _ _ q
  |ret=>exact h _ _ _ q
  |exit i =>
   simp only at q ⊢
   cases hi:Nat.beq i id with
   |true=>rw [hi] at q;exact h _ _ _ q
   |false=>rw [hi] at q;exact h _ _ _ q) hk
 |.loop x,Q,Q',e,b,h,hk=>⟨λI h1 h2 h3=>hk.wl I (λe b hF=>h1 e b (awp_mono x (λz e b q=>by cases z<;>first|exact q|exact h _ _ _ q) hF)) h2 h3⟩
 |.rangeFunc _ _ _ _,Q,Q',e,b,h,hk=>False.elim hk
 |.scope _,Q,Q',e,b,h,hk=>False.elim hk
 |.label _,Q,Q',e,b,h,hk=>False.elim hk
 |.goto _,Q,Q',e,b,h,hk=>False.elim hk
 |.refuse _,Q,Q',e,b,h,hk=>False.elim hk
variable {x:Code} {Q:Ex→Env→Bxs→Prop} {e:Env} {b:Bxs}
theorem Loop.unroll(h:awp D τ x (λz e b=>match z with|.normal=>Loop (awp D τ x) Q e b|z=>Q z e b) e b):Loop (awp D τ x) Q e b :=
 ⟨λI h1 h2 h3=>h1 e b (awp_mono x (λz e b q=>by cases z<;>first|exact q.wl I h1 h2 h3|exact q) h)⟩
theorem Loop.ghost(t i T s:Nat)(h:Loop (awp D τ x) Q ((t,.gs i 0) :: e) ((i,.grow T s []) :: b))(h1:ld t e=some (.c (.v (.slice none 0 0))))(h2:mention [i] e=false)(h3:ld i b=none)(h4:0<s)(h5:mentionB [i] b=false:=by rfl):Loop (awp D τ x) Q e b :=
 ⟨λI k1 k2 k3=>k3 e b t i T s (h.wl I k1 k2 k3) h1 h2 h3 h4 h5⟩
structure Again {α:Type} (E:α→Env) (B:α→Bxs) (p:α→Prop) (μ:α→Nat) (n:Nat) (e:Env) (b:Bxs) (y:α):Prop where
 e:SubE (E y) e
 b:SubB (B y) b
 p:p y
 lt:μ y<n
theorem Loop.inv{α:Type}(E:α→Env)(B:α→Bxs)(p:α→Prop)(μ:α→Nat)(x0:α)(he:SubE (E x0) e)(hb:SubB (B x0) b)(hp:p x0)
 (step:∀y,p y→awp D τ x (λz e b=>match z with|.normal=>∃y',Again E B p μ (μ y) e b y'|z=>Q z e b) (E y) (B y)):Loop (awp D τ x) Q e b:=by
 refine ⟨λI h1 h2 h3=>h2 _ _ _ _ ?_ he hb⟩
 have key:∀n y,μ y=n→p y→I (E y) (B y):=by
  intro n
  induction n using Nat.strongRecOn with
  |_ n ih =>
   intro y hn hy
   refine h1 _ _ (awp_mono x (λz e b q=>?_) (step y hy))
   cases z with
   |normal =>
    obtain ⟨y',q1,q2,q3,q4⟩:=q
    exact h2 _ _ _ _ (ih (μ y') (by omega) y' rfl q3) q1 q2
   |ret=>exact q
   |exit id=>exact q
 exact key _ x0 rfl hp
end
class DenI (P:Program) [Wld P] (f:FuncId) (xs:List AV) (pre:outParam Prop) (r:outParam AV):Prop where
 den:pre→Den P f xs r
structure Pr (p:Prop):Prop where
 p:p
section
variable {P:Program} [Wld P]
theorem call_i{f:FuncId}{xs:List AV}{pre:Prop}{r:AV}{k:AV→Prop}[h:DenI P f xs pre r](hp:Pr pre)(hk:k r):CallP (Den P) f xs k:=⟨r,h.den hp.p,hk⟩
theorem call_0{f:FuncId}{xs:List AV}{r:AV}{k:AV→Prop}[h:DenI P f xs True r](hk:k r):CallP (Den P) f xs k:=⟨r,h.den trivial,hk⟩
theorem obl_i{p k:Prop}(hp:Pr p)(hk:k):Obl p k:=⟨hp.p,hk⟩
theorem onB_t{k:Bool→Prop}(h:k true):OnB true k:=⟨λ_=>h,λh=>Bool.noConfusion h⟩
theorem onB_f{k:Bool→Prop}(h:k false):OnB false k:=⟨λh=>Bool.noConfusion h,λ_=>h⟩
theorem onB_d{p:Prop}[Decidable p]{k:Bool→Prop}(ht:p→k true)(hf:¬p→k false):OnB (decide p) k:=⟨λh=>ht (of_decide_eq_true h),λh=>hf (of_decide_eq_false h)⟩
theorem onB_n{p:Prop}[Decidable p]{k:Bool→Prop}(ht:¬p→k true)(hf:p→k false):OnB (!decide p) k:=⟨λh=>ht (by simpa using h),λh=>hf (by simpa using h)⟩
end
@[reducible] def lmc(l:List Nat):Cell:=.sl 1 (l.map λx=>[.v (u32 x)])
@[reducible] def zs(n:Int):Cell:=.v (.bool (decide (n<0)))
@[reducible] def zl(n:Int):Cell:=lmc (lim n.natAbs)
@[reducible] def Z(n:Int):AV:=.agg [zs n,zl n]
@[reducible] def R(q:Rat):AV:=.agg [zs q.num,zl q.num,zs q.den,zl q.den]
theorem flat_us(l:List Nat):(l.map λx=>[u32 x]).flatten=us l:=by
 induction l with
 |nil=>rfl
 |cons x r ih=>simp [us] at ih ⊢;exact ih
theorem flat_inj{w:World}{X:List Nat}:∀{l:List Nat} {uss:List (List Value)},RepS w X 1 uss (l.map λx=>[.v (u32 x)])→uss=l.map λx=>[u32 x]
 |[],uss,h=>List.eq_nil_of_length_eq_zero (by simpa using h.len)
 |x :: l,uss,h=>by
  cases uss with
  |nil=>have:=h.len;simp at this
  |cons us r =>
   have h0:=h.get 0 us [.v (u32 x)] rfl rfl
   obtain ⟨u,r',rfl,h1,h2⟩:=h0.inv
   have hr':r'=[]:=List.eq_nil_of_length_eq_zero (by simpa using h2.len)
   subst hr'
   cases h1
   have ih:=flat_inj (w:=w) (X:=X) (l:=l) (uss:=r) ⟨by simpa using h.len,λus hu=>h.sz us (by simp [hu]),λi us e a b=>h.get (i+1) us e (by simpa using a) (by simpa using b)⟩
   rw [ih];rfl
theorem UL.of_rep{w:World}{X:List Nat}{u:Value}{l:List Nat}(h:RepC w X u (lmc l)):UL w X u l:=by
 obtain ⟨A,cap,uss,rfl,h1,h2,h3,h4⟩:=RepS.of_sl h
 have:=flat_inj h4
 subst this
 rw [flat_us] at h3
 exact ⟨A,_,cap,rfl,by simp,h3,by simpa using h1,h2⟩
theorem UL.rep{w:World}{X:List Nat}{u:Value}{l:List Nat}(h:UL w X u l):RepC w X u (lmc l):=by
 obtain ⟨A,n,c,rfl,rfl,h1,h2,h3⟩:=h
 have hS:RepS w X 1 (l.map λx=>[u32 x]) (l.map λx=>[.v (u32 x)]):=by
  refine ⟨by simp,λus hu=>?_,λi us e a b=>?_⟩
  ·obtain ⟨x,_,rfl⟩:=List.mem_map.1 hu;rfl
  ·rw [List.getElem?_map] at a b
   cases hx:l[i]? with
   |none=>simp [hx] at a
   |some x =>
    simp [hx] at a b
    subst a b
    exact .cons (.v _ rfl) (.nil _ _)
 have:=hS.sl (A:=A) (cap:=c) (by rw [flat_us];exact h1) (by simpa using h2) h3
 simpa using this
theorem mks_i{l c:Int}{by_:Nat}{k:Nat→Prop}(hp:Pr (0≤l∧l≤c∧c*(by_+1)≤140737488355328))(hk:k l.toNat):MkS l c by_ k:=by
 obtain ⟨⟨h1,h2,h3⟩⟩:=hp
 refine ⟨l.toNat,c.toNat,by omega,by omega,by omega, ?_,hk⟩
 have:((c.toNat * (by_+1):Nat):Int)≤140737488355328:=by
  rw [Int.natCast_mul,Int.toNat_of_nonneg (by omega),Int.natCast_add];exact h3
 omega
theorem slp_i{n:Nat}{lo hi mx:Option Int}{k:Nat→Nat→Prop}(hp:Pr (0≤lo.getD 0∧lo.getD 0≤hi.getD n∧hi.getD n≤mx.getD n∧mx.getD n≤n∧(mx.isSome=true→hi.isSome=true)))(hk:k (lo.getD 0).toNat (hi.getD n).toNat):SlP n lo hi mx k:=by
 obtain ⟨⟨h1,h2,h3,h4,h5⟩⟩:=hp
 exact ⟨_,_,(mx.getD n).toNat,by omega,by omega,by omega,by omega,by omega,by omega,h5,hk⟩
theorem elem_map{M:Type}(d:M){f:M→List Cell}{l:List M}{i:Int}{k:List Cell→Prop}(hp:Pr (0≤i∧i<l.length))(hk:k (f (l.getD i.toNat d))):Elem (l.map f) i k:=by
 obtain ⟨⟨h1,h2⟩⟩:=hp
 have hlt:i.toNat<l.length:=by omega
 refine ⟨i.toNat,_,by omega, ?_,hk⟩
 simp [List.getD,hlt]
theorem elem_u{l:List Nat}{i:Int}{k:List Cell→Prop}(hp:Pr (0≤i∧i<l.length))(hk:k [.v (u32 (l.getD i.toNat 0))]):Elem (l.map λx=>[.v (u32 x)]) i k:=elem_map 0 hp hk
theorem elem_0{e:List Cell}{es:List (List Cell)}{k:List Cell→Prop}(hk:k e):Elem (e :: es) 0 k:=⟨0,e,rfl,rfl,hk⟩
theorem elem_1{e e':List Cell}{es:List (List Cell)}{k:List Cell→Prop}(hk:k e'):Elem (e :: e' :: es) 1 k:=⟨1,e',rfl,rfl,hk⟩
section
variable {P:Program} [Wld P] {f:FuncId} {r:AV}
def RR(P:Program)(f:FuncId)(vs:Array Value)(w:World)(X:List Nat)(r:AV):Prop:=Calls P f vs w (Ret λu w'=>RepR w' X u r∧Below w.heap.size w w')
theorem RR.den{vs:Array Value}{w:World}{X:List Nat}(h:RR P f vs w X r):Calls P f vs w (Ret λu w'=>RepF w.heap.size w' X u r∧Below w.heap.size w w') :=
 h.mono λe w' ⟨u,he,hi,hb⟩=>⟨u,he,hi.f,hb⟩
theorem den2{x y:AV}(hb:hasBody P f=true)(h:∀(w:World) (X:List Nat) (u v:Value),(∀m∈X,m<w.heap.size)→RepD w X u x→RepD w X v y→RR P f #[u,v] w X r)(hn:noTup [x,y]=true:=by rfl):Den P f [x,y] r :=
 Den.of ⟨hb,λw X vs _ hX hl hr=>by
  obtain ⟨u,v,rfl⟩:∃u v,vs=[u,v]:=by
   match vs,hl with
   |[u,v],_=>exact ⟨u,v,rfl⟩
  exact RR.den (h w X u v hX (hr 0 u x rfl rfl) (hr 1 v y rfl rfl))⟩ hn
theorem RepD.ul{w:World}{X:List Nat}{l:List Nat}{u:Value}(h:RepD w X u (.c (lmc l))):UL w X u l:=by
 cases h with
 |c h=>exact UL.of_rep h
theorem tup2{w:World}{X:List Nat}{u v:Value}{x y:AV}(h:RepD w X u x)(k:RepD w X v y):RepR w X (.tuple #[u,v]) (.tup [x,y]) :=
 .tup (us:=[u,v]) rfl λi a b ha hb=>by
  match i,ha,hb with
  |0,ha,hb=>simp at ha hb;subst ha hb;exact h
  |1,ha,hb=>simp at ha hb;subst ha hb;exact k
end
end Go.Sw
namespace Go.Sw
open Go Go.RowKit Go.ChangeShapes Go.WideShapes Go.ChangeAt Go.Joins Go.Deep
set_option linter.unusedVariables false
inductive TS where
 |int (k:IntKind)
 |bool
 |str
 |slice (e:TS)
 |nil
 |cons (a b:TS)
def TS.n:TS→Nat
 |.int _=>1
 |.bool=>1
 |.str=>1
 |.slice _=>1
 |.nil=>0
 |.cons a b=>a.n+b.n
def TS.one:TS→Bool
 |.nil=>false
 |.cons _ _=>false
 |_=>true
def Fit:TS→List Cell→Prop
 |.int k,cs=>∃n,(Lit.int k n).wf=true∧cs=[.v (.int k n)]
 |.bool,cs=>∃b,cs=[.v (.bool b)]
 |.str,cs=>∃s,s.size≤maxLen∧cs=[.v (.string s)]
 |.slice e,cs=>∃es,es.length≤maxLen∧(∀x∈es,Fit e x)∧cs=[.sl e.n es]
 |.nil,cs=>cs=[]
 |.cons a b,cs=>∃x y,Fit a x∧Fit b y∧cs=x++y
theorem Fit.len:∀{T:TS} {cs:List Cell},Fit T cs→cs.length=T.n
 |.int _,_,⟨_,_,h⟩=>by subst h;rfl
 |.bool,_,⟨_,h⟩=>by subst h;rfl
 |.str,_,⟨_,_,h⟩=>by subst h;rfl
 |.slice _,_,⟨_,_,_,h⟩=>by subst h;rfl
 |.nil,_,h=>by rw [show _=[] from h];rfl
 |.cons a b,_,⟨x,y,h1,h2,h⟩=>by subst h;simp [TS.n,Fit.len h1,Fit.len h2]
def inRow(P:Program):Nat→List Field→Bool
 |_,[]=>true
 |o,f :: r=>decide (f.offset=o) && inRow P (o+P.cellsOf f.type) r
def kidsOf(P:Program)(t:TypeId):Option (List TypeId) :=
 match P.underlying t with
 |some (.struct fs)=>if inRow P 0 fs.toList && Nat.beq (P.cellsOf t) (fs.toList.map λf=>P.cellsOf f.type).sum then some (fs.toList.map (·.type)) else none
 |some (.array n e)=>if Nat.beq (P.cellsOf t) (n*P.cellsOf e) then some (List.replicate n e) else none
 |_=>none
def tsOk(P:Program):TS→TypeId ⊕ List TypeId→Bool
 |.int k,.inl t=>(match P.underlying t with|some (.int k')=>decide (k'=k)|_=>false)
 |.bool,.inl t=>(match P.underlying t with|some .bool=>true|_=>false)
 |.str,.inl t=>(match P.underlying t with|some .string=>true|_=>false)
 |.slice e,.inl t=>(match P.underlying t with|some (.slice u)=>tsOk P e (.inl u) && Nat.beq (P.cellsOf u) e.n && Nat.blt 0 e.n|_=>false)
 |.nil,.inl t=>(match kidsOf P t with|some []=>true|_=>false)
 |.cons a b,.inl t=>(match kidsOf P t with|some (u :: us)=>tsOk P a (.inl u) && tsOk P b (.inr us)|_=>false)
 |.nil,.inr []=>true
 |.cons a b,.inr (u :: us)=>tsOk P a (.inl u) && tsOk P b (.inr us)
 |_,_=>false
section
variable {P:Program} {H:Type} {enc:TypeId × Value→H} {w:World}
def TrodL(enc:TypeId × Value→H)(P:Program)(w:World):List TypeId→List Value→Prop
 |[],cs=>cs=[]
 |t :: ts,cs=>∃a b fuel x,cs=a++b∧DataW.trod enc P w 0 (λ_=>true) true fuel t a=some x∧TrodL enc P w ts b
theorem trodL_fields{fuel:Nat}:∀(fs:List Field) (o:Nat) (cs:List Value),inRow P o fs=true→cs.length=o+(fs.map λf=>P.cellsOf f.type).sum →
 (∀f∈fs,∃x,DataW.trod enc P w 0 (λ_=>true) true fuel f.type ((cs.drop f.offset).take (P.cellsOf f.type))=some x)→TrodL enc P w (fs.map (·.type)) (cs.drop o)
 |[],o,cs,_,hl,_=>by
  simp only [List.map_nil,List.sum_nil,Nat.add_zero] at hl
  exact List.drop_eq_nil_of_le (by omega)
 |f :: r,o,cs,hr,hl,h=>by
  simp only [inRow,Bool.and_eq_true,decide_eq_true_eq] at hr
  obtain ⟨rfl,h2⟩:=hr
  obtain ⟨x,hx⟩:=h f (by simp)
  refine ⟨_,_,fuel,x, ?_,hx,trodL_fields r (f.offset+P.cellsOf f.type) cs h2 (by simp only [List.map_cons,List.sum_cons] at hl;omega) λg hg=>h g (by simp [hg])⟩
  rw [← List.drop_drop,List.take_append_drop]
theorem trodL_reps{fuel:Nat}{e:TypeId}:∀(n o:Nat) (cs:List Value),cs.length=(o+n)*P.cellsOf e →
 (∀i,i<n→∃x,DataW.trod enc P w 0 (λ_=>true) true fuel e ((cs.drop ((o+i)*P.cellsOf e)).take (P.cellsOf e))=some x)→TrodL enc P w (List.replicate n e) (cs.drop (o*P.cellsOf e))
 |0,o,cs,hl,_=>by
  exact List.drop_eq_nil_of_le (by rw [hl];simp)
 |n+1,o,cs,hl,h=>by
  obtain ⟨x,hx⟩:=h 0 (by omega)
  have:=trodL_reps n (o+1) cs (by rw [hl];congr 1;omega) λi hi=>by
   obtain ⟨x,hx⟩:=h (i+1) (by omega)
   refine ⟨x, ?_⟩
   rw [show o+1+i=o+(i+1) by omega]
   exact hx
  refine ⟨_,_,fuel,x, ?_,hx,this⟩
  rw [Nat.add_zero,Nat.succ_mul,← List.drop_drop,List.take_append_drop]
theorem mem_of_cell'{a:Addr}{v:Value}(h:w.cell? a=some v):a.block<w.heap.size:=by
 unfold World.cell? at h
 rcases Nat.lt_or_ge a.block w.heap.size with h1|h1
 ·exact h1
 ·have:w.heap[a.block]?=none:=by simp [h1]
  rw [this] at h;simp at h
theorem cells?_mem{base n:Nat}{a:Addr}{us:List Value}(h:w.cells? base a n=some us):us.length=n∧∀(j:Nat) u,us[j]?=some u→w.cell? (a.add j)=some u:=by
 unfold World.cells? at h
 split at h
 ·refine ⟨by simpa using mapM_some_length h,λj u hu=>?_⟩
  have hj:j<n:=by have:=(List.getElem?_eq_some_iff.1 hu).1;have:=mapM_some_length h;simp at this;omega
  have:=mapM_some_get h j j (by simp [hj])
  rw [this,hu]
 ·cases h
theorem each_some{α:Type}{Q:Nat→α→Prop}:∀{n:Nat},(∀i,i<n→∃x,Q i x)→∃l:List α,l.length=n∧∀(i:Nat) x,l[i]?=some x→Q i x
 |0,_=>⟨[],rfl,λi x h=>by simp at h⟩
 |n+1,h=>by
  obtain ⟨l,h1,h2⟩:=each_some (n:=n) (Q:=Q) λi hi=>h i (by omega)
  obtain ⟨x,hx⟩:=h n (by omega)
  refine ⟨l++[x],by simp [h1],λi y hy=>?_⟩
  rcases Nat.lt_or_ge i n with hi|hi
  ·rw [List.getElem?_append_left (by omega)] at hy;exact h2 i y hy
  ·rw [List.getElem?_append_right (by omega)] at hy
   have:i=n:=by
    have:=(List.getElem?_eq_some_iff.1 hy).1
    simp at this;omega
   subst this
   simp [h1] at hy;subst hy;exact hx
theorem trodL_of{t:TypeId}{ts:List TypeId}{fuel:Nat}{cs:List Value}{x:DataW H × List MemPlace}(hk:kidsOf P t=some ts)(h:DataW.trod enc P w 0 (λ_=>true) true fuel t cs=some x):TrodL enc P w ts cs:=by
 unfold kidsOf at hk
 split at hk
 ·rename_i fs hu
  split at hk
  ·rename_i hc
   injection hk with hk
   subst hk
   simp only [Bool.and_eq_true] at hc
   obtain ⟨xs,n,_,_,h2,h3,h4⟩:=DataW.trod_struct hu h
   have:=trodL_fields (enc:=enc) (P:=P) (w:=w) (fuel:=n) fs.toList 0 cs hc.1 (by rw [h2,Nat.eq_of_beq_eq_true hc.2,Nat.zero_add]) λf hf=>by
    obtain ⟨i,hi⟩:=List.getElem?_of_mem hf
    have hi':i<fs.size:=by have:=(List.getElem?_eq_some_iff.1 hi).1;simpa using this
    have:=h4 i f (by simpa using hi)
    rw [this]
    exact ⟨_,List.getElem?_eq_getElem (by omega)⟩
   simpa using this
  ·cases hk
 ·rename_i n e hu
  split at hk
  ·rename_i hc
   injection hk with hk
   subst hk
   obtain ⟨xs,m,_,_,h2,h3,h4⟩:=DataW.trod_array hu h
   have:=trodL_reps (enc:=enc) (P:=P) (w:=w) (fuel:=m) (e:=e) n 0 cs (by rw [h2,Nat.eq_of_beq_eq_true hc,Nat.zero_add]) λi hi=>by
    have:=h4 i hi
    rw [Nat.zero_add,this]
    exact ⟨_,List.getElem?_eq_getElem (by omega)⟩
   simpa using this
  ·cases hk
 ·cases hk
theorem trod_fit:∀(T:TS),(∀t,tsOk P T (.inl t)=true→∀fuel cs x,DataW.trod enc P w 0 (λ_=>true) true fuel t cs=some x→∃cl,Fit T cl∧RepL w [] cs cl) ∧
 (∀ts,tsOk P T (.inr ts)=true→∀cs,TrodL enc P w ts cs→∃cl,Fit T cl∧RepL w [] cs cl)
 |.int k=>⟨λt ht fuel cs x h=>(by
  simp only [tsOk] at ht
  split at ht
  ·rename_i k' hu
   have:=of_decide_eq_true ht
   subst this
   obtain ⟨n,rfl,h1,h2⟩:=DataW.trod_int hu h
   first
    |exact ⟨[.v (.int k' n)],⟨n,h1,rfl⟩,.cons (.v _ rfl) (.nil _ _)⟩
    |exact ⟨[.v (.int k' n)],⟨n,h2,rfl⟩,.cons (.v _ rfl) (.nil _ _)⟩
  ·cases ht),λts ht=>by simp [tsOk] at ht⟩
 |.bool=>⟨λt ht fuel cs x h=>(by
  simp only [tsOk] at ht
  split at ht
  ·rename_i hu
   obtain ⟨b,rfl,_⟩:=DataW.trod_bool hu h
   exact ⟨[.v (.bool b)],⟨b,rfl⟩,.cons (.v _ rfl) (.nil _ _)⟩
  ·cases ht),λts ht=>by simp [tsOk] at ht⟩
 |.str=>⟨λt ht fuel cs x h=>(by
  simp only [tsOk] at ht
  split at ht
  ·rename_i hu
   obtain ⟨s,rfl,h1,h2⟩:=DataW.trod_string hu h
   first
    |exact ⟨[.v (.string s)],⟨s,h1,rfl⟩,.cons (.v _ rfl) (.nil _ _)⟩
    |exact ⟨[.v (.string s)],⟨s,h2,rfl⟩,.cons (.v _ rfl) (.nil _ _)⟩
  ·cases ht),λts ht=>by simp [tsOk] at ht⟩
 |.slice e=>⟨λt ht fuel cs x h=>(by
  simp only [tsOk] at ht
  split at ht
  ·rename_i u hu
   simp only [Bool.and_eq_true] at ht
   obtain ⟨⟨h1,h2⟩,h3⟩:=ht
   have h2:=Nat.eq_of_beq_eq_true h2
   have h3:0<e.n:=by simpa [Nat.blt_eq] using h3
   rcases DataW.trod_slice hu h with ⟨rfl,_⟩|⟨a,len,cap,elems,rest,n,rfl,rfl,_,_,hl,hc,hlen,hel,_,_⟩
   ·exact ⟨[.sl e.n []],⟨[],by simp,λx hx=>by simp at hx,rfl⟩,.cons (.nil _ _ _) (.nil _ _)⟩
   ·have ex:∀i,i<len→∃q:List Value × List Cell,Fit e q.2∧RepL w [] q.1 q.2∧∀(j:Nat) v,q.1[j]?=some v→w.cell? ((a.add (i*e.n)).add j)=some v:=λi hi=>by
     have hE:=hel i hi
     have hi':i<elems.length:=by omega
     rw [List.getElem?_eq_getElem hi',h2] at hE
     simp only [Option.bind_eq_some_iff] at hE
     obtain ⟨us,hus,htr⟩:=hE
     obtain ⟨cl,f1,f2⟩:=(trod_fit e).1 u h1 _ _ _ htr
     exact ⟨(us,cl),f1,f2,(cells?_mem hus).2⟩
    obtain ⟨l,l1,l2⟩:=each_some ex
    have hS:RepS w [] e.n (l.map (·.1)) (l.map (·.2)):=by
     refine ⟨by simp,λus hus=>?_,λi us x hi hx=>?_⟩
     ·obtain ⟨q,hq,rfl⟩:=List.mem_map.1 hus
      obtain ⟨i,hi⟩:=List.getElem?_of_mem hq
      have:=l2 i q hi
      rw [this.2.1.len];exact this.1.len
     ·rw [List.getElem?_map] at hi hx
      cases hq:l[i]? with
      |none=>rw [hq] at hi;cases hi
      |some q =>
       rw [hq] at hi hx
       simp at hi hx
       subst hi hx
       exact (l2 i q hq).2.1
    have hCl:Cl w [] (some a) (l.map (·.1)).flatten:=λhne=>by
     have fl:∀(q:Nat) v,(l.map (·.1)).flatten[q]?=some v→w.cell? (a.add q)=some v:=λq v hv=>by
      have hq:q<l.length*e.n:=by
       have:=(List.getElem?_eq_some_iff.1 hv).1
       rwa [flatten_len hS.sz,List.length_map] at this
      have hi:q / e.n<l.length:=Nat.div_lt_of_lt_mul (by rw [Nat.mul_comm];exact hq)
      have hj:q % e.n<e.n:=Nat.mod_lt _ h3
      have e1:q / e.n*e.n+q % e.n=q:=by rw [Nat.mul_comm];exact Nat.div_add_mod _ _
      have:=flatten_at hS.sz (i:=q / e.n) (us:=(l[q / e.n]).1) (by rw [List.getElem?_map,List.getElem?_eq_getElem hi];rfl) (q % e.n) hj
      rw [e1,hv] at this
      have:=(l2 _ _ (List.getElem?_eq_getElem hi)).2.2 _ _ this.symm
      rwa [add_add',e1] at this
     have hpos:0<(l.map (·.1)).flatten.length:=List.length_pos_iff.2 hne
     have h0:=fl 0 _ (List.getElem?_eq_getElem hpos)
     have hb:=mem_of_cell' h0
     rw [block_add] at hb
     exact ⟨a,rfl,hb,by simp,fl⟩
    refine ⟨[.sl e.n (l.map (·.2))],⟨_,by simp;omega,λx hx=>?_,rfl⟩,.cons ?_ (.nil _ _)⟩
    ·obtain ⟨q,hq,rfl⟩:=List.mem_map.1 hx
     obtain ⟨i,hi⟩:=List.getElem?_of_mem hq
     exact (l2 i q hi).1
    ·have:=hS.sl hCl (cap:=cap) (by simp;omega) hc
     simp only [List.length_map,l1] at this
     exact this
  ·cases ht),λts ht=>by simp [tsOk] at ht⟩
 |.nil=>⟨λt ht fuel cs x h=>(by
  simp only [tsOk] at ht
  have hk:kidsOf P t=some []:=by
   split at ht
   ·assumption
   ·cases ht
  have:=trodL_of hk h
  rw [show cs=[] from this]
  exact ⟨[],rfl,.nil _ _⟩),λts ht cs h=>by
  cases ts with
  |nil=>rw [show cs=[] from h];exact ⟨[],rfl,.nil _ _⟩
  |cons _ _=>simp [tsOk] at ht⟩
 |.cons a b=>⟨λt ht fuel cs x h=>(by
  simp only [tsOk] at ht
  split at ht
  ·rename_i u us hk
   simp only [Bool.and_eq_true] at ht
   obtain ⟨c1,c2,fuel',x',rfl,h1,h2⟩:=trodL_of hk h
   obtain ⟨l1,f1,r1⟩:=(trod_fit a).1 u ht.1 _ _ _ h1
   obtain ⟨l2,f2,r2⟩:=(trod_fit b).2 us ht.2 _ h2
   exact ⟨_,⟨l1,l2,f1,f2,rfl⟩,r1.append r2⟩
  ·cases ht),λts ht cs h=>by
  cases ts with
  |nil=>simp [tsOk] at ht
  |cons u us =>
   simp only [tsOk,Bool.and_eq_true] at ht
   obtain ⟨c1,c2,fuel',x',rfl,h1,h2⟩:=h
   obtain ⟨l1,f1,r1⟩:=(trod_fit a).1 u ht.1 _ _ _ h1
   obtain ⟨l2,f2,r2⟩:=(trod_fit b).2 us ht.2 _ h2
   exact ⟨_,⟨l1,l2,f1,f2,rfl⟩,r1.append r2⟩⟩
theorem oneCell_of{T:TS}{t:TypeId}{r:Reach}{b0:Nat}{v:Value}(h1:T.one=true)(ht:tsOk P T (.inl t)=true)(hv:Value.okWide P w r b0 t v):v.cells = #[v]:=by
 cases T with
 |nil=>cases h1
 |cons _ _=>cases h1
 |int k =>
  simp only [tsOk] at ht
  split at ht
  ·rename_i k' hu
   simp only [Value.okWide,hu,Cell.okWide,Cell.ok] at hv
   cases v<;>first|rfl|exact False.elim hv
  ·cases ht
 |bool =>
  simp only [tsOk] at ht
  split at ht
  ·rename_i hu
   simp only [Value.okWide,hu,Cell.okWide,Cell.ok] at hv
   cases v<;>first|rfl|exact False.elim hv
  ·cases ht
 |str =>
  simp only [tsOk] at ht
  split at ht
  ·rename_i hu
   simp only [Value.okWide,hu,Cell.okWide,Cell.ok] at hv
   cases v<;>first|rfl|exact False.elim hv
  ·cases ht
 |slice e =>
  simp only [tsOk] at ht
  split at ht
  ·rename_i u hu
   simp only [Value.okWide,hu,Cell.okWide,Cell.ok] at hv
   cases v<;>first|rfl|exact False.elim hv
  ·cases ht
def FitA(T:TS)(x:AV):Prop:=match T.one with
 |true=>∃c,Fit T [c]∧x=.c c
 |false=>∃cl,Fit T cl∧x=.agg cl
theorem trod_arg{T:TS}{t:TypeId}{r:Reach}{b0:Nat}{v:Value}{d:DataW H}{p:List MemPlace}(ht:tsOk P T (.inl t)=true)(hv:Value.okWide P w r b0 t v)(h:DataW.Trod enc P w 0 (λ_=>true) true t v d p):∃x,FitA T x∧RepD w [] v x:=by
 obtain ⟨fuel,h⟩:=h
 obtain ⟨cl,h1,h2⟩:=(trod_fit T).1 t ht _ _ _ h
 cases h3:T.one with
 |true =>
  have hc:=oneCell_of h3 ht hv
  have hl:=h1.len
  have hl1:T.n=1:=by cases T<;>first|rfl|cases h3
  rw [hc] at h2
  match cl,hl,h2 with
  |[c],_,h2 =>
   obtain ⟨u,r',he,h5,_⟩:=h2.inv
   simp at he
   obtain ⟨rfl,_⟩:=he
   exact ⟨.c c,by unfold FitA;rw [h3];exact ⟨c,h1,rfl⟩,.c h5⟩
  |[],hl,_=>rw [hl1] at hl;simp at hl
  |_ :: _ :: _,hl,_=>rw [hl1] at hl;simp at hl
 |false =>
  have ha:∃cs,v=.agg cs:=by
   have hk:(kidsOf P t).isSome=true:=by
    cases T with
    |nil=>simp only [tsOk] at ht;split at ht;rename_i hk;rw [hk];rfl;cases ht
    |cons a b=>simp only [tsOk] at ht;split at ht;rename_i hk;rw [hk];rfl;cases ht
    |int _=>cases h3
    |bool=>cases h3
    |str=>cases h3
    |slice _=>cases h3
   unfold kidsOf at hk
   unfold Value.okWide at hv
   split at hk
   ·rename_i hu;rw [hu] at hv;exact ⟨_,hv.choose_spec.1⟩
   ·rename_i hu;rw [hu] at hv;exact ⟨_,hv.choose_spec.1⟩
   ·cases hk
  obtain ⟨cs,rfl⟩:=ha
  refine ⟨.agg cl,by unfold FitA;rw [h3];exact ⟨cl,h1,rfl⟩, ?_⟩
  have:RepD w [] (.agg cs.toList.toArray) (.agg cl):=.agg h2
  simpa using this
def FitAs:List TS→List AV→Prop
 |[],xs=>xs=[]
 |T :: Ts,xs=>∃x r,FitA T x∧FitAs Ts r∧xs=x :: r
def tsOks(P:Program):List TS→List TypeId→Bool
 |[],[]=>true
 |T :: Ts,t :: ts=>tsOk P T (.inl t) && tsOks P Ts ts
 |_,_=>false
theorem trod_args{r:Reach}{b0:Nat}:∀{Ts:List TS} {ts:List TypeId} {vs:List Value} {ds:List (DataW H)} {p:List MemPlace},tsOks P Ts ts=true→(∀(j:Nat) t v,ts[j]?=some t→vs[j]?=some v→Value.okWide P w r b0 t v) →
 DataW.TrodAll enc P w 0 (λ_=>true) true ts vs ds p→∃xs,FitAs Ts xs∧vs.length=xs.length∧∀(i:Nat) u v,vs[i]?=some u→xs[i]?=some v→RepD w [] u v
 |[],[],vs,ds,p,_,_,h=>by
  match vs,ds,h with
  |[],[],_=>exact ⟨[],rfl,rfl,λi u v h=>by simp at h⟩
 |T :: Ts,t :: ts,vs,ds,p,hk,hv,h=>by
  simp only [tsOks,Bool.and_eq_true] at hk
  match vs,ds,h with
  |v :: vs,d :: ds,⟨p1,p2,h1,h2,_⟩ =>
   obtain ⟨x,f1,r1⟩:=trod_arg hk.1 (hv 0 t v rfl rfl) h1
   obtain ⟨xs,f2,l2,r2⟩:=trod_args hk.2 (λj t v a b=>hv (j+1) t v (by simpa using a) (by simpa using b)) h2
   exact ⟨x :: xs,⟨x,xs,f1,f2,rfl⟩,by simp [l2],λi u y a b=>by
    cases i with
    |zero=>simp at a b;subst a b;exact r1
    |succ i=>exact r2 i u y (by simpa using a) (by simpa using b)⟩
 |[],_ :: _,_,_,_,hk,_,_=>by simp [tsOks] at hk
 |_ :: _,[],_,_,_,hk,_,_=>by simp [tsOks] at hk
theorem repR_bool{w:World}{X:List Nat}{u:Value}{b:Bool}(h:RepR w X u (.bool b)):u=.bool b:=by
 generalize hv:AV.bool b=v at h
 cases h with
 |d h =>
  cases h with
  |c h =>
   injection hv with hv
   subst hv
   generalize hc:Cell.v (.bool b)=c at h
   cases h with
   |v _ _=>injection hc with hc;exact hc.symm
   |sl=>cases hc
   |p=>cases hc
   |fn=>cases hc
  |agg h=>cases hv
 |tup _ _=>cases hv
def readAll(P:Program)(ts:List TypeId):Bool:=ts.all λt=>P.readableRec t && Nat.blt t P.types.size
theorem trodAll_below{W W':World}(hl:laidOutB P=true)(hb:Below W.heap.size W W'):∀{ts:List TypeId} {vs:List Value} {ds:List (DataW H)} {p:List MemPlace},readAll P ts=true→(∀x∈p,x.block<W.heap.size)→DataW.TrodAll enc P W 0 (λ_=>true) true ts vs ds p →
 DataW.TrodAll enc P W' 0 (λb=>decide (b<W.heap.size)) true ts vs ds p
 |[],[],[],p,_,_,h=>h
 |t :: ts,v :: vs,d :: ds,p,hr,hlt,h=>by
  obtain ⟨p1,p2,h1,h2,rfl⟩:=h
  simp only [readAll,List.all_cons,Bool.and_eq_true] at hr
  exact ⟨p1,p2,Below.trod hl hr.1.1 (by simpa [Nat.blt_eq] using hr.1.2) h1 hb (λx hx=>hlt x (List.mem_append.2 (.inl hx))),trodAll_below hl hb (ts:=ts) hr.2 (λx hx=>hlt x (List.mem_append.2 (.inr hx))) h2,rfl⟩
 |[],_ :: _,_,_,_,_,h=>h.elim
 |[],[],_ :: _,_,_,_,h=>h.elim
 |_ :: _,[],_,_,_,_,h=>h.elim
 |_ :: _,_ :: _,[],_,_,_,h=>h.elim
theorem law_run[Wld P]{f:FuncId}{Ts:List TS}{ts:List TypeId}{args:Array Value}{ds:List (DataW H)}{p:List MemPlace}{r:Reach}{b0:Nat}(hk:tsOks P Ts ts=true)(hden:∀xs,FitAs Ts xs→Den P f xs (.bool true))
 (hv:∀(j:Nat) t v,ts[j]?=some t→args.toList[j]?=some v→Value.okWide P w r b0 t v) (h:DataW.TrodAll enc P w 0 (λ_=>true) true ts args.toList ds p) (ho:Wld.ok P w:=by trivial):Calls P f args w (Ret λu w'=>u=.bool true∧Below w.heap.size w w'):=by
 obtain ⟨xs,h1,h2,h3⟩:=trod_args hk hv h
 have:=((hden xs h1).old (noTup_rep h2 h3)).2 w [] args.toList ho (by simp) h2 h3
 simp only [Array.toArray_toList] at this
 exact this.mono λe w' ⟨u,he,hr,hb⟩=>⟨u,he,repR_bool hr.r,hb⟩
theorem wfNat{k:IntKind}{n:Int}(hk:k=.u8∨k=.u16∨k=.u32∨k=.u64)(h:(Lit.int k n).wf=true):∃m:Nat,n=m∧m<2 ^ k.bits:=by
 refine ⟨n.toNat, ?_⟩
 simp only [Lit.wf,Bool.and_eq_true,decide_eq_true_eq] at h
 rcases hk with rfl|rfl|rfl|rfl<;>simp [IntKind.min,IntKind.max,IntKind.signed,IntKind.bits] at h ⊢<;>omega
theorem wfI16{n:Int}(h:(Lit.int .i16 n).wf=true):-32768≤n∧n≤32767:=by
 simp only [Lit.wf,Bool.and_eq_true,decide_eq_true_eq] at h
 simp [IntKind.min,IntKind.max,IntKind.signed,IntKind.bits] at h
 omega
theorem trodAll_len{W:World}{sp:Nat→Bool}:∀{ts:List TypeId} {vs:List Value} {ds:List (DataW H)} {p:List MemPlace},DataW.TrodAll enc P W 0 sp true ts vs ds p→ds.length=ts.length
 |[],[],[],_,_=>rfl
 |_ :: ts,_ :: vs,_ :: ds,_,⟨_,_,_,h,_⟩=>by simp [trodAll_len h]
 |[],_ :: _,_,_,h=>h.elim
 |[],[],_ :: _,_,h=>h.elim
 |_ :: _,[],_,_,h=>h.elim
 |_ :: _,_ :: _,[],_,h=>h.elim
theorem len1{α:Type}{l:List α}(h:l.length=1):∃a,l=[a]:=by
 match l,h with
 |[a],_=>exact ⟨a,rfl⟩
end
end Go.Sw
namespace Go.Proofs.YtbbfmlhkgceabaaGreat
open Go
theorem Tryz.own:ownKnob Tryz.prog.godebug=none:=by kernel_rfl
theorem Tryz.laidOut:laidOutB Tryz.prog=true:=by kernel_rfl
end Go.Proofs.YtbbfmlhkgceabaaGreat
namespace Go.Proofs.YtbbfmlhkgceabaaGreat
open Go Go.RowKit Go.Sw
set_option maxRecDepth 100000
instance wld_:Wld Tryz.prog:=Wld.any _
def tab:Tab:=[(32,.row 4 [(0,2,true),(2,2,true)] [.v (.bool false),.sl 1 [],.v (.bool false),.sl 1 []]),
 (89,.row 66 [(0,1,false),(1,12,true),(13,12,true),(25,1,false),(26,20,true),(46,20,true)] [.v (.bool false),.v (.bool false),.sl 1 [],.v (.bool false),.sl 1 [],.v (.bool false),.sl 1 [],.v (.bool false),.sl 1 [],.v (.bool false),.sl 1 [],.v (.bool false),.sl 1 [],.v (.bool false),.sl 1 [],.v (.bool false),.sl 1 [],.v (.bool false),.sl 1 [],.v (.bool false),.sl 1 [],.v (.bool false),.sl 1 [],.v (.bool false),.sl 1 [],.v (.bool false),.v (.bool false),.sl 1 [],.v (.bool false),.sl 1 [],.v (.bool false),.sl 1 [],.v (.bool false),.sl 1 [],.v (.bool false),.sl 1 [],.v (.bool false),.sl 1 [],.v (.bool false),.sl 1 [],.v (.bool false),.sl 1 [],.v (.bool false),.sl 1 [],.v (.bool false),.sl 1 [],.v (.bool false),.sl 1 [],.v (.bool false),.sl 1 [],.v (.bool false),.sl 1 [],.v (.bool false),.sl 1 [],.v (.bool false),.sl 1 [],.v (.bool false),.sl 1 [],.v (.bool false),.sl 1 [],.v (.bool false),.sl 1 [],.v (.bool false),.sl 1 [],.v (.bool false),.sl 1 []]),
 (30,.row 2 [(0,1,false),(1,1,false)] [.v (.bool false),.sl 1 []]),
 (34,.row 12 [(0,4,true),(4,4,true),(8,4,true)] [.v (.bool false),.sl 1 [],.v (.bool false),.sl 1 [],.v (.bool false),.sl 1 [],.v (.bool false),.sl 1 [],.v (.bool false),.sl 1 [],.v (.bool false),.sl 1 []]),
 (54,.row 20 [(0,4,true),(4,4,true),(8,4,true),(12,4,true),(16,4,true)] [.v (.bool false),.sl 1 [],.v (.bool false),.sl 1 [],.v (.bool false),.sl 1 [],.v (.bool false),.sl 1 [],.v (.bool false),.sl 1 [],.v (.bool false),.sl 1 [],.v (.bool false),.sl 1 [],.v (.bool false),.sl 1 [],.v (.bool false),.sl 1 [],.v (.bool false),.sl 1 []]),
 (28,.slice 158 1 4 [.v (.int .u32 0)]),
 (42,.slice 89 66 1040 [.v (.bool false),.v (.bool false),.sl 1 [],.v (.bool false),.sl 1 [],.v (.bool false),.sl 1 [],.v (.bool false),.sl 1 [],.v (.bool false),.sl 1 [],.v (.bool false),.sl 1 [],.v (.bool false),.sl 1 [],.v (.bool false),.sl 1 [],.v (.bool false),.sl 1 [],.v (.bool false),.sl 1 [],.v (.bool false),.sl 1 [],.v (.bool false),.sl 1 [],.v (.bool false),.v (.bool false),.sl 1 [],.v (.bool false),.sl 1 [],.v (.bool false),.sl 1 [],.v (.bool false),.sl 1 [],.v (.bool false),.sl 1 [],.v (.bool false),.sl 1 [],.v (.bool false),.sl 1 [],.v (.bool false),.sl 1 [],.v (.bool false),.sl 1 [],.v (.bool false),.sl 1 [],.v (.bool false),.sl 1 [],.v (.bool false),.sl 1 [],.v (.bool false),.sl 1 [],.v (.bool false),.sl 1 [],.v (.bool false),.sl 1 [],.v (.bool false),.sl 1 [],.v (.bool false),.sl 1 [],.v (.bool false),.sl 1 [],.v (.bool false),.sl 1 [],.v (.bool false),.sl 1 []]),
 (87,.row 12 [(0,4,true),(4,4,true),(8,4,true)] [.v (.bool false),.sl 1 [],.v (.bool false),.sl 1 [],.v (.bool false),.sl 1 [],.v (.bool false),.sl 1 [],.v (.bool false),.sl 1 [],.v (.bool false),.sl 1 []]),
 (85,.row 12 [(0,4,true),(4,4,true),(8,4,true)] [.v (.bool false),.sl 1 [],.v (.bool false),.sl 1 [],.v (.bool false),.sl 1 [],.v (.bool false),.sl 1 [],.v (.bool false),.sl 1 [],.v (.bool false),.sl 1 []]),
 (49,.row 2 [(0,1,false),(1,1,false)] [.v (.int .i64 0),.v (.int .i64 0)]),
 (158,.int .u32),
 (4,.bool),
 (180,.slice 54 20 320 [.v (.bool false),.sl 1 [],.v (.bool false),.sl 1 [],.v (.bool false),.sl 1 [],.v (.bool false),.sl 1 [],.v (.bool false),.sl 1 [],.v (.bool false),.sl 1 [],.v (.bool false),.sl 1 [],.v (.bool false),.sl 1 [],.v (.bool false),.sl 1 [],.v (.bool false),.sl 1 []]),
 (95,.row 8 [(0,4,true),(4,4,true)] [.v (.bool false),.sl 1 [],.v (.bool false),.sl 1 [],.v (.bool false),.sl 1 [],.v (.bool false),.sl 1 []]),
 (44,.row 1 [(0,1,false)] [.sl 66 []]),
 (68,.row 24 [(0,4,true),(4,4,true),(8,4,true),(12,4,true),(16,4,true),(20,4,true)] [.v (.bool false),.sl 1 [],.v (.bool false),.sl 1 [],.v (.bool false),.sl 1 [],.v (.bool false),.sl 1 [],.v (.bool false),.sl 1 [],.v (.bool false),.sl 1 [],.v (.bool false),.sl 1 [],.v (.bool false),.sl 1 [],.v (.bool false),.sl 1 [],.v (.bool false),.sl 1 [],.v (.bool false),.sl 1 [],.v (.bool false),.sl 1 []]),
 (134,.int .u64),
 (2,.int .i64),
 (3,.int .i64),
 (247,.row 13 [(0,1,false),(1,12,true)] [.v (.int .i64 0),.v (.bool false),.sl 1 [],.v (.bool false),.sl 1 [],.v (.bool false),.sl 1 [],.v (.bool false),.sl 1 [],.v (.bool false),.sl 1 [],.v (.bool false),.sl 1 []]),
 (230,.row 13 [(0,1,false),(1,12,true)] [.v (.int .i64 0),.v (.bool false),.sl 1 [],.v (.bool false),.sl 1 [],.v (.bool false),.sl 1 [],.v (.bool false),.sl 1 [],.v (.bool false),.sl 1 [],.v (.bool false),.sl 1 []]),
 (199,.slice 34 12 192 [.v (.bool false),.sl 1 [],.v (.bool false),.sl 1 [],.v (.bool false),.sl 1 [],.v (.bool false),.sl 1 [],.v (.bool false),.sl 1 [],.v (.bool false),.sl 1 []]),
 (25,.row 6 [(0,1,false),(1,1,false),(2,1,false),(3,1,false),(4,1,false),(5,1,false)] [.v (.int .i16 0),.v (.int .i16 0),.v (.int .u16 0),.v (.int .u8 0),.v (.int .u8 0),.v (.int .u8 0)]),
 (77,.row 16 [(0,4,true),(4,4,true),(8,4,true),(12,4,true)] [.v (.bool false),.sl 1 [],.v (.bool false),.sl 1 [],.v (.bool false),.sl 1 [],.v (.bool false),.sl 1 [],.v (.bool false),.sl 1 [],.v (.bool false),.sl 1 [],.v (.bool false),.sl 1 [],.v (.bool false),.sl 1 []]),
 (255,.int .u64),
 (5,.int .u8),
 (164,.int .u64),
 (121,.slice 2 1 8 [.v (.int .i64 0)]),
 (26,.arr 3 6 false [.v (.int .i16 0),.v (.int .i16 0),.v (.int .u16 0),.v (.int .u8 0),.v (.int .u8 0),.v (.int .u8 0),.v (.int .i16 0),.v (.int .i16 0),.v (.int .u16 0),.v (.int .u8 0),.v (.int .u8 0),.v (.int .u8 0),.v (.int .i16 0),.v (.int .i16 0),.v (.int .u16 0),.v (.int .u8 0),.v (.int .u8 0),.v (.int .u8 0)]),
 (142,.row 1 [(0,1,false)] [.v (.bool false)]),
 (110,.slice 95 8 128 [.v (.bool false),.sl 1 [],.v (.bool false),.sl 1 [],.v (.bool false),.sl 1 [],.v (.bool false),.sl 1 []]),
 (193,.slice 42 1 24 [.sl 66 []]),
 (23,.int .u16),
 (57,.row 2 [(0,1,false),(1,1,false)] [.v (.int .i64 0),.v (.int .i64 0)]),
 (22,.int .i16),
 (9,.str),
 (3000000169,.flag)]
theorem tab_ok:tabOk Tryz.prog tab=true:=by kernel_rfl
theorem mixed_:Tryz.prog.follows .mixedOrders=true:=by kernel_rfl
end Go.Proofs.YtbbfmlhkgceabaaGreat
namespace Go.Sw
open Go Go.RowKit
set_option linter.unusedVariables false
def lenC:List Cell→Prop
 |[]=>True
 |.sl _ es :: r=>es.length≤9223372036854775807∧lenC r
 |_ :: r=>lenC r
def lenA:List AV→Prop
 |[]=>True
 |v :: r=>lenC (cellsOf v)∧lenA r
theorem lenC_ok{w:World}{X:List Nat}:∀{us:List Value} {cs:List Cell},RepL w X us cs→lenC cs
 |us,[],_=>trivial
 |us,.v u :: r,h=>by
  obtain ⟨_,us',_,_,h2⟩:=h.inv
  show lenC r
  exact lenC_ok h2
 |us,.p ps :: r,h=>by
  obtain ⟨_,us',_,_,h2⟩:=h.inv
  show lenC r
  exact lenC_ok h2
 |us,.fn ff ps :: r,h=>by
  obtain ⟨_,us',_,_,h2⟩:=h.inv
  show lenC r
  exact lenC_ok h2
 |us,.ob i n :: r,h=>by
  obtain ⟨_,us',_,_,h2⟩:=h.inv
  show lenC r
  exact lenC_ok h2
 |us,.sl s es :: r,h=>by
  obtain ⟨_,us',_,h1,h2⟩:=h.inv
  obtain ⟨A,cap,uss,_,h3,h4,_⟩:=RepS.of_sl h1
  exact ⟨Nat.le_trans h3 h4,lenC_ok h2⟩
theorem lenA_ok{w:World}{X:List Nat}:∀{vs:List Value} {xs:List AV},vs.length=xs.length→(∀(i:Nat) u v,vs[i]?=some u→xs[i]?=some v→RepD w X u v)→lenA xs
 |_,[],_,_=>trivial
 |[],_ :: _,h,_=>by simp at h
 |v :: vs,x :: xs,hl,h=>⟨by
  obtain ⟨us,_,h1⟩:=(h 0 v x rfl rfl).cells
  exact lenC_ok h1,lenA_ok (by simpa using hl) λi u y a b=>h (i+1) u y (by simpa using a) (by simpa using b)⟩
theorem den_len{P:Program}[Wld P]{f:FuncId}{xs:List AV}{r:AV}(hb:hasBody P f=true)(h:lenA xs→Den P f xs r)(hn:noTup xs=true:=by rfl):Den P f xs r :=
 Den.of ⟨hb,λw X vs ho hX hl hr=>((h (lenA_ok hl hr)).old hn).2 w X vs ho hX hl hr⟩ hn
end Go.Sw
namespace Go.Sw
open Go
set_option linter.unusedVariables false
def rz(q:Rat):Nat:=sz q.num+sz q.den
theorem rz_num(q:Rat):sz q.num≤rz q:=Nat.le_add_right _ _
theorem rz_den(q:Rat):sz q.den≤rz q:=Nat.le_add_left _ _
theorem packR{q:Rat}{a b:Int}(h1:q.num=a)(h2:(q.den:Int)=b):packA [AV.agg [zs a,zl a,zs b,zl b]]=R q:=by subst h1 h2;rfl
theorem gcd_cast(n d:Int):((Nat.gcd n.natAbs d.natAbs:Nat):Int)=((d.gcd n:Nat):Int):=by rw [Nat.gcd_comm];rfl
theorem red_pos{n d:Int}(hd:0<d):((n:Rat) / d).num=n.fdiv (Nat.gcd n.natAbs d.natAbs:Nat)∧((((n:Rat) / d).den:Nat):Int)=d.fdiv (Nat.gcd n.natAbs d.natAbs:Nat):=by
 rw [← Rat.divInt_eq_div,Rat.num_divInt,Rat.den_divInt,gcd_cast,if_neg (by omega)]
 have hg:0<d.gcd n:=Int.gcd_pos_of_ne_zero_left n (by omega)
 rw [Int.sign_eq_one_of_pos hd,Int.one_mul]
 refine ⟨?_, ?_⟩
 ·rw [Int.fdiv_eq_ediv_of_nonneg _ (by omega)]
 ·rw [Int.fdiv_eq_ediv_of_nonneg _ (by omega),Int.natCast_ediv]
  congr 1;omega
theorem red_neg{n d:Int}(hd:d<0):((n:Rat) / d).num=(-n).fdiv (Nat.gcd (-n).natAbs (-d).natAbs:Nat)∧((((n:Rat) / d).den:Nat):Int)=(-d).fdiv (Nat.gcd (-n).natAbs (-d).natAbs:Nat):=by
 have h:=red_pos (n:=-n) (d:=-d) (by omega)
 have e:((-n:Int):Rat) / ((-d:Int):Rat)=(n:Rat) / d:=by
  have:(d:Rat)≠0:=by intro h0;have:=(Rat.intCast_inj (a:=d) (b:=0)).1 (by simpa using h0);omega
  rw [Rat.intCast_neg,Rat.intCast_neg];grind
 rwa [e] at h
theorem fdiv_one(n:Int):n.fdiv 1=n:=by simp
theorem sz_red{n d:Int}(hd:d≠0):sz ((n:Rat) / d).num≤sz n∧sz ((n:Rat) / d).den≤sz d:=by
 have key:∀{n d:Int},0<d→sz ((n:Rat) / d).num≤sz n∧sz ((n:Rat) / d).den≤sz d:=by
  intro n d hd
  obtain ⟨h1,h2⟩:=red_pos (n:=n) hd
  have hg:0<Nat.gcd n.natAbs d.natAbs:=Nat.gcd_pos_of_pos_right _ (by omega)
  rw [h1,h2]
  constructor<;>apply sz_mono
  ·rw [Int.fdiv_eq_ediv_of_nonneg _ (by omega)]
   have:(Nat.gcd n.natAbs d.natAbs:Int) ∣ n:=Int.ofNat_dvd_left.2 (Nat.gcd_dvd_left _ _)
   rw [Int.natAbs_ediv_of_dvd this]
   exact Nat.div_le_self _ _
  ·rw [Int.fdiv_eq_ediv_of_nonneg _ (by omega)]
   have:(Nat.gcd n.natAbs d.natAbs:Int) ∣ d:=Int.ofNat_dvd_left.2 (Nat.gcd_dvd_right _ _)
   rw [Int.natAbs_ediv_of_dvd this]
   exact Nat.div_le_self _ _
 rcases Int.lt_or_gt_of_ne hd with h|h
 ·have e:((-n:Int):Rat) / ((-d:Int):Rat)=(n:Rat) / d:=by
   have:(d:Rat)≠0:=by intro h0;have:=(Rat.intCast_inj (a:=d) (b:=0)).1 (by simpa using h0);omega
   rw [Rat.intCast_neg,Rat.intCast_neg];grind
  have:=key (n:=-n) (d:=-d) (by omega)
  rw [e,sz_neg,sz_neg] at this
  exact this
 ·exact key h
theorem den_ne(q:Rat):(q.den:Int)≠0:=by have:=q.den_nz;omega
theorem den_pos(q:Rat):(0:Int)<q.den:=by have:=q.den_nz;omega
theorem den_ne'(q:Rat):((q.den:Int):Rat)≠0:=by
 intro h0;have:=(Rat.intCast_inj (a:=q.den) (b:=0)).1 (by simpa using h0);exact den_ne q this
theorem num_den(q:Rat):(q.num:Rat)=q*(q.den:Int):=by
 have h:=Rat.num_divInt_den q
 rw [Rat.divInt_eq_div] at h
 have:=den_ne' q
 grind
theorem add_div(a b:Rat):((a.num*b.den+b.num*a.den:Int):Rat) / ((a.den*b.den:Int):Rat)=a+b:=by
 have h1:=num_den a;have h2:=num_den b;have h3:=den_ne' a;have h4:=den_ne' b
 rw [Rat.intCast_add,Rat.intCast_mul,Rat.intCast_mul,Rat.intCast_mul]
 grind
theorem add_div'(a b:Rat)(h:(a.den:Int)=b.den):((a.num+b.num:Int):Rat) / ((a.den:Int):Rat)=a+b:=by
 have h1:=num_den a;have h2:=num_den b;have h3:=den_ne' a
 rw [Rat.intCast_add,h1,h2,← h]
 grind
theorem mul_div(a b:Rat):((a.num*b.num:Int):Rat) / ((a.den*b.den:Int):Rat)=a*b:=by
 have h1:=num_den a;have h2:=num_den b;have h3:=den_ne' a;have h4:=den_ne' b
 rw [Rat.intCast_mul,Rat.intCast_mul]
 grind
theorem div_div(a b:Rat)(h:b≠0):((a.num*b.den:Int):Rat) / ((a.den*b.num:Int):Rat)=a / b:=by
 have h1:=num_den a;have h2:=num_den b;have h3:=den_ne' a;have h4:=den_ne' b
 rw [Rat.intCast_mul,Rat.intCast_mul]
 grind
theorem rz_red{n d:Int}(hd:d≠0):rz ((n:Rat) / d)≤sz n+sz d:=by
 have:=sz_red (n:=n) hd;unfold rz;omega
theorem rz_add(a b:Rat):rz (a+b)≤2*(rz a+rz b)+1:=by
 rw [← add_div]
 have h:=rz_red (n:=a.num*b.den+b.num*a.den) (d:=(a.den*b.den:Int)) (Int.mul_ne_zero (den_ne a) (den_ne b))
 have h1:=sz_add (a.num*b.den) (b.num*a.den)
 have h2:=sz_mul a.num b.den;have h3:=sz_mul b.num a.den;have h4:=sz_mul a.den b.den
 unfold rz at h ⊢;omega
theorem rz_mul(a b:Rat):rz (a*b)≤rz a+rz b:=by
 rw [← mul_div]
 have h:=rz_red (n:=a.num*b.num) (d:=(a.den*b.den:Int)) (Int.mul_ne_zero (den_ne a) (den_ne b))
 have h2:=sz_mul a.num b.num;have h4:=sz_mul a.den b.den
 unfold rz at h ⊢;omega
theorem rz_neg(a:Rat):rz (-a)=rz a:=by unfold rz;rw [Rat.neg_num,Rat.neg_den,sz_neg]
theorem rz_sub(a b:Rat):rz (a-b)≤2*(rz a+rz b)+1:=by
 have:=rz_add a (-b);rw [rz_neg] at this;rwa [Rat.sub_eq_add_neg]
theorem sz_one:sz 1≤1:=sz_le (by decide)
theorem rz_int(n:Int):rz (n:Rat)≤sz n+1:=by
 unfold rz;rw [Rat.num_intCast,Rat.den_intCast];have:=sz_one;simp;exact this
theorem sgnI_lt0{a:Int}:sgnI a<0↔a<0:=by unfold sgnI;split<;>(try split)<;>omega
theorem sgnI_le0{a:Int}:sgnI a≤0↔a≤0:=by unfold sgnI;split<;>(try split)<;>omega
theorem sgnI_gt0{a:Int}:sgnI a > 0↔a > 0:=by unfold sgnI;split<;>(try split)<;>omega
theorem sgnI_ge0{a:Int}:sgnI a≥0↔a≥0:=by unfold sgnI;split<;>(try split)<;>omega
theorem sgnI_eq1{a:Int}:sgnI a=1↔0<a:=by unfold sgnI;split<;>(try split)<;>omega
theorem cmpI_le0{a b:Int}:cmpI a b≤0↔a≤b:=by unfold cmpI;split<;>(try split)<;>omega
theorem cmpI_ge0{a b:Int}:cmpI a b≥0↔a≥b:=by unfold cmpI;split<;>(try split)<;>omega
def cmpR(a b:Rat):Int:=if a<b then -1 else if b<a then 1 else 0
def sgnR(a:Rat):Int:=if a<0 then -1 else if a=0 then 0 else 1
theorem cmpR_of(a b:Rat):cmpI (a.num*b.den) (b.num*a.den)=cmpR a b:=by
 unfold cmpI cmpR
 simp only [Rat.lt_iff]
theorem num_lt0(a:Rat):a.num<0↔a<0:=by rw [Rat.lt_iff];simp
theorem num_eq0(a:Rat):a.num=0↔a=0:=by simp
theorem num_gt0(a:Rat):0<a.num↔0<a:=by rw [Rat.lt_iff];simp
theorem sgnR_of(a:Rat):sgnI a.num=sgnR a:=by unfold sgnI sgnR;simp only [num_lt0,num_eq0]
theorem cmpR_lt0{a b:Rat}:cmpR a b<0↔a<b:=by unfold cmpR;split<;>(try split)<;>simp_all
theorem cmpR_gt0{a b:Rat}:cmpR a b > 0↔b<a:=by unfold cmpR;split<;>(try split)<;>simp_all<;>grind
theorem cmpR_eq0{a b:Rat}:cmpR a b=0↔a=b:=by unfold cmpR;split<;>(try split)<;>simp_all<;>grind
theorem cmpR_le0{a b:Rat}:cmpR a b≤0↔a≤b:=by unfold cmpR;split<;>(try split)<;>simp_all<;>grind
theorem cmpR_ge0{a b:Rat}:cmpR a b≥0↔b≤a:=by unfold cmpR;split<;>(try split)<;>simp_all<;>grind
theorem sgnR_lt0{a:Rat}:sgnR a<0↔a<0:=by unfold sgnR;split<;>(try split)<;>simp_all
theorem sgnR_eq0{a:Rat}:sgnR a=0↔a=0:=by unfold sgnR;split<;>(try split)<;>simp_all<;>grind
theorem sgnR_gt0{a:Rat}:sgnR a > 0↔0<a:=by unfold sgnR;split<;>(try split)<;>simp_all<;>grind
theorem sgnR_le0{a:Rat}:sgnR a≤0↔a≤0:=by unfold sgnR;split<;>(try split)<;>simp_all<;>grind
theorem sgnR_ge0{a:Rat}:sgnR a≥0↔0≤a:=by unfold sgnR;split<;>(try split)<;>simp_all<;>grind
theorem sgnR_eq1{a:Rat}:sgnR a=1↔0<a:=by unfold sgnR;split<;>(try split)<;>simp_all<;>grind
def nrm_:=And.intro @sgnI_lt0 <| And.intro @sgnI_zero <| And.intro @sgnI_le0 <| And.intro @sgnI_gt0 <| And.intro @sgnI_ge0 <| And.intro @sgnI_eq1 <| And.intro @cmpI_lt0 <| And.intro @cmpI_gt0 <| And.intro @cmpI_eq0 <| And.intro @cmpI_le0 <| And.intro @cmpI_ge0 <| And.intro @cmpR_of <| And.intro @sgnR_of <| And.intro @sgnR_lt0 <| And.intro @sgnR_eq0 <| And.intro @sgnR_gt0 <| And.intro @sgnR_le0 <| And.intro @sgnR_ge0 <| And.intro @sgnR_eq1 <| And.intro @cmpR_lt0 <| And.intro @cmpR_gt0 <| And.intro @cmpR_eq0 <| And.intro @cmpR_le0 <| @cmpR_ge0
theorem floor_of(a:Rat):a.num.fdiv a.den=a.floor:=by
 rw [Rat.floor_def,Int.fdiv_eq_ediv_of_nonneg _ (by omega)]
def ZR:AV:=.agg [.v (.bool false),.sl 1 [],.v (.bool false),.sl 1 []]
theorem frac0(n:Int):((0:Int):Rat) / ((1:Int):Rat)=(n:Rat) / ((0:Int):Rat):=by
 have h1:((0:Int):Rat)=0:=rfl
 rw [h1,Rat.div_def (n:Rat),Rat.inv_zero];grind
theorem Z0:Z 0=.agg [.v (.bool false),.sl 1 []]:=by
 have:lim 0=[]:=lim_zero
 simp [Z,zs,zl,lmc,this]
theorem lim_len0(n:Nat):(lim n).length=0↔n=0:=by rw [List.length_eq_zero_iff,lim_nil]
theorem cast_len0(n:Nat):(((lim n).length:Nat):Int)=0↔n=0:=by rw [← lim_len0];omega
theorem cast_len1(n:Nat):(((lim n).length:Nat):Int) > 0↔¬n=0:=by rw [← lim_len0];omega
theorem ediv_natAbs(a b:Int):a.natAbs=b.natAbs*(a.natAbs / b.natAbs)+a.natAbs % b.natAbs:=(Nat.div_add_mod _ _).symm
theorem rdm_zero(a:Int):packA [AV.agg [Cell.v (Value.bool false),Cell.sl 1 []],AV.agg [Cell.v (Value.bool false),Cell.sl 1 []],.int .i64 6]=.tup [Z (a.fdiv 0),Z (if (0:Int)=0 then 0 else a.fmod 0),.int .i64 (if (0:Int)=0 then 6 else 0)]:=by
 have h:a.fdiv 0=0:=by simp
 rw [h,if_pos rfl,if_pos rfl,Z0];rfl
theorem rdm_keep{a b:Int}(hb:¬b.natAbs=0)(h:a.natAbs % b.natAbs=0∨¬(decide (a<0) != decide (b<0))=true):
 packA [Z (sgnv (decide (a<0) != decide (b<0)) (a.natAbs / b.natAbs)),Z (sgnv (decide (a<0)) (a.natAbs % b.natAbs)),.int .i64 0]=.tup [Z (a.fdiv b),Z (if b=0 then 0 else a.fmod b),.int .i64 (if b=0 then 6 else 0)]:=by
 have hb':b≠0:=by omega
 obtain ⟨h1,h2⟩:=dm_keep (a:=a) hb' (ediv_natAbs a b) (Nat.mod_lt _ (by omega)) (by rcases h with h|h;exact .inl h;right;by_cases h1:a<0<;>by_cases h2:b<0<;>simp_all<;>omega)
 rw [h1,h2,if_neg hb',if_neg hb'];rfl
theorem rdm_turn{a b:Int}(hb:¬b.natAbs=0)(h0:¬a.natAbs % b.natAbs=0)(h:(decide (a<0) != decide (b<0))=true):
 packA [Z (sgnv (decide (a<0) != decide (b<0)) (a.natAbs / b.natAbs)-1),Z (sgnv (decide (a<0)) (a.natAbs % b.natAbs)+b),.int .i64 0]=.tup [Z (a.fdiv b),Z (if b=0 then 0 else a.fmod b),.int .i64 (if b=0 then 6 else 0)]:=by
 have hb':b≠0:=by omega
 obtain ⟨h1,h2⟩:=dm_turn (a:=a) hb' (ediv_natAbs a b) (Nat.mod_lt _ (by omega)) (by omega) (by by_cases h1:a<0<;>by_cases h2:b<0<;>simp_all)
 rw [h1,h2,if_neg hb',if_neg hb'];rfl
theorem sz_sgnv(neg:Bool)(n:Nat)(a:Int)(h:n≤a.natAbs):sz (sgnv neg n)≤sz a:=sz_mono (by rw [natAbs_sgnv];exact h)
def isq:Nat→Nat
 |0=>0
 |n+1=>if (isq n+1)*(isq n+1)≤n+1 then isq n+1 else isq n
theorem isq_ok:∀n,isq n*isq n≤n∧n<(isq n+1)*(isq n+1)
 |0=>by simp [isq]
 |n+1=>by
  obtain ⟨h1,h2⟩:=isq_ok n
  unfold isq
  split
  ·rename_i h
   refine ⟨h, ?_⟩
   have e:(isq n+1+1)*(isq n+1+1)=(isq n+1)*(isq n+1)+2*(isq n+1)+1:=by grind
   omega
  ·exact ⟨by omega,by omega⟩
theorem isq_uniq{n r:Nat}(h1:r*r≤n)(h2:n<(r+1)*(r+1)):r=isq n:=by
 obtain ⟨q1,q2⟩:=isq_ok n
 rcases Nat.lt_trichotomy r (isq n) with h|h|h
 ·have:=Nat.mul_le_mul (show r+1≤isq n by omega) (show r+1≤isq n by omega);omega
 ·exact h
 ·have:=Nat.mul_le_mul (show isq n+1≤r by omega) (show isq n+1≤r by omega);omega
theorem pow_cells(k:Nat):[Cell.v (.bool false),Cell.sl 1 (List.replicate k [Cell.v (.int .u32 0)]++[[Cell.v (.int .u32 1)]])]=[zs ((1000000000 ^ k:Nat):Int),zl ((1000000000 ^ k:Nat):Int)]:=by
 have h0:=sqrt_start k
 have hl:lim (1000000000 ^ k)=List.replicate k 0++[1]:=by
  have hb:Lb (List.replicate k 0++[1]):=(lb_zeros k).append (Lb.cons (by omega) Lb.nil)
  have hv:val (List.replicate k 0++[1])=1000000000 ^ k:=by rw [val_append,val_zeros];simp [val]
  rw [← hv,lim_val _ hb]
  have hc:CanL (List.replicate k 0++[1]):=(can_iff hb).2 (.inr (by simp [List.getD]))
  exact hc.2
 have hn:¬(((1000000000 ^ k:Nat):Int)<0):=Int.not_lt.2 (Int.natCast_nonneg _)
 unfold zs zl
 rw [decide_eq_false hn,Int.natAbs_natCast,hl]
 unfold lmc
 rw [List.map_append,List.map_replicate]
 rfl
theorem half_len{n:Nat}(h:n≤1000000000000):IntKind.i64.wrap ((IntKind.i64.wrap ((n:Nat)+1)).tdiv 2)=(((n+1) / 2:Nat):Int):=by
 rw [wi64 (a:=(n:Nat)+1) (by omega) (by omega),Int.tdiv_eq_ediv_of_nonneg (by omega),wi64 (by omega) (by omega)];omega
theorem rsq_neg{a:Int}(h:a<0):packA [AV.agg [Cell.v (Value.bool false),Cell.sl 1 []],AV.c (Cell.v (Value.int IntKind.i64 7))]=AV.tup [Z (if a<0 then 0 else (isq a.natAbs:Nat)),AV.int IntKind.i64 (if a<0 then 7 else 0)]:=by
 rw [if_pos h,if_pos h,Z0];rfl
theorem rsq_zero{a:Int}(h:¬a<0)(h0:a.natAbs=0):packA [AV.agg [Cell.v (Value.bool false),Cell.sl 1 []],AV.c (Cell.v (Value.int IntKind.i64 0))]=AV.tup [Z (if a<0 then 0 else (isq a.natAbs:Nat)),AV.int IntKind.i64 (if a<0 then 7 else 0)]:=by
 rw [if_neg h,if_neg h,h0,show ((isq 0:Nat):Int)=0 from rfl,Z0];rfl
theorem rsq_end{a:Int}{x:Nat}(h:¬a<0)(hx:0<x∧a.natAbs<(x+1)*(x+1)∧sz x≤200000000)(hge:(((x+a.natAbs / x) / 2:Nat):Int)≥x):
 packA [AV.agg [zs x,zl x],AV.c (Cell.v (Value.int IntKind.i64 0))]=AV.tup [Z (if a<0 then 0 else (isq a.natAbs:Nat)),AV.int IntKind.i64 (if a<0 then 7 else 0)]:=by
 have h1:=newton_end hx.1 rfl (show x≤(x+a.natAbs / x) / 2 by omega)
 rw [if_neg h,if_neg h,← isq_uniq h1 hx.2.1];rfl
theorem rsq_step{a:Int}{x:Nat}(h0:¬a.natAbs=0)(hx:0<x∧a.natAbs<(x+1)*(x+1)∧sz x≤200000000)(hge:¬(((x+a.natAbs / x) / 2:Nat):Int)≥x):
 0<(x+a.natAbs / x) / 2∧a.natAbs<((x+a.natAbs / x) / 2+1)*((x+a.natAbs / x) / 2+1)∧sz ((x+a.natAbs / x) / 2:Nat)≤200000000 :=
 ⟨newton_pos (by omega) hx.1 rfl,newton_ge hx.1 rfl,Nat.le_trans (sz_mono (by rw [Int.natAbs_natCast,Int.natAbs_natCast];omega)) hx.2.2⟩
theorem sz_quot{a:Int}{x:Nat}:sz ((a.natAbs / x:Nat):Int)≤sz a:=sz_mono (by rw [Int.natAbs_natCast];exact Nat.div_le_self _ _)
theorem inc64{x:Nat}(h:x+1≤9223372036854775807):some (AV.int .i64 (IntKind.i64.wrap ((x:Nat)+1)))=some (AV.int .i64 ((x+1:Nat):Int)):=by
 rw [wi64 (by omega) (by omega)];rfl
theorem bE{x y:Bool}(h:x=y):packA [AV.c (Cell.v (Value.bool x))]=AV.bool y:=by rw [h];rfl
theorem iE{k:IntKind}{x y:Int}(h:x=y):packA [AV.c (Cell.v (Value.int k x))]=AV.int k y:=by rw [h];rfl
end Go.Sw
namespace Go.Sw
open Go
set_option linter.unusedVariables false
def pad:Nat→Nat→List Nat
 |0,_=>[]
 |n+1,v=>v % 1000000000 :: pad n (v / 1000000000)
theorem pad_len:∀(n v:Nat),(pad n v).length=n
 |0,_=>rfl
 |n+1,v=>by simp [pad,pad_len]
theorem lb_pad:∀(n v:Nat),Lb (pad n v)
 |0,_=>Lb.nil
 |n+1,v=>Lb.cons (Nat.mod_lt _ (by decide)) (lb_pad n _)
theorem val_pad:∀(n v:Nat),v<1000000000 ^ n→val (pad n v)=v
 |0,v,h=>by simp at h;subst h;rfl
 |n+1,v,h=>by
  have:v / 1000000000<1000000000 ^ n:=Nat.div_lt_of_lt_mul (by rw [Nat.pow_succ,Nat.mul_comm] at h;exact h)
  simp only [pad,val,val_pad n _ this]
  omega
theorem pad_val:∀(l:List Nat),Lb l→l=pad l.length (val l)
 |[],_=>rfl
 |x :: r,h=>by
  have h1:=h.head
  have h2:=pad_val r h.tail
  simp only [List.length_cons,pad,val]
  rw [show (x+1000000000*val r) % 1000000000=x by omega,show (x+1000000000*val r) / 1000000000=val r by omega,← h2]
theorem lmc_pad{l:List Nat}{n v:Nat}(h:Lb l)(hl:l.length=n)(hv:val l=v):lmc l=lmc (pad n v):=by
 subst hl hv
 rw [← pad_val l h]
theorem cE{c c':Cell}(h:c=c'):packA [AV.c c]=AV.c c':=by rw [h];rfl
theorem lE{l l':List Nat}(h:l=l'):packA [AV.c (lmc l)]=AV.c (lmc l'):=by rw [h];rfl
theorem cut1{l:List Nat}{k:Nat}{i:Int}(hk:k≤l.length)(h0:¬k=0)(hi:i.toNat=k-1):some (AV.c (.sl 1 ((((l.take k).map λx=>[Cell.v (u32 x)]).take i.toNat).drop (Int.toNat 0))))=some (AV.c (lmc (l.take (k-1)))):=by
 rw [hi]
 show some (AV.c (.sl 1 (List.drop 0 _)))=_
 rw [List.drop_zero,← List.map_take,List.take_take,Nat.min_eq_left (by omega)]
theorem tn1{x:Nat}:((x:Int)-1).toNat=x-1:=by omega
theorem tn2{x:Nat}:((x:Int)+1).toNat=x+1:=by omega
theorem minl{x n:Nat}(h:x≤n):min x n=x:=Nat.min_eq_left h
theorem trim_end{l:List Nat}{x:Nat}(hx:x≤l.length∧∀j,x≤j→l.getD j 0=0)(h:x=0∨(l.take x).getD (x-1) 0≠0):packA [AV.c (lmc (l.take x))]=AV.c (lmc (trimz l)) :=
 lE (trimz_take l x hx.1 hx.2 (take_last hx.1 h))
theorem zE{neg b:Bool}{l:List Nat}(hb:Lb l)(h:b=(neg && decide (0<val l))):packA [AV.agg [Cell.v (.bool b),lmc (trimz l)]]=Z (sgnv neg (val l)):=by
 subst h
 show AV.agg [_,_]=AV.agg [zs _,zl _]
 unfold zs zl
 rw [neg_sgnv,natAbs_sgnv,lim_val l hb]
theorem trimz_pos'{l:List Nat}(hb:Lb l):0<(trimz l).length↔0<val l:=by
 rw [← lim_val l hb]
 have:=lim_len_zero (n:=val l)
 omega
theorem zE1{b:Bool}{l:List Nat}(hb:Lb l)(h:b=decide ((((trimz l).length:Nat):Int) > 0)):packA [AV.agg [Cell.v (.bool b),lmc (trimz l)]]=Z (sgnv true (val l)) :=
 zE hb (by have:=trimz_pos' hb;subst h;rw [Bool.true_and,decide_eq_decide];omega)
theorem zE0{l:List Nat}(hb:Lb l):packA [AV.agg [Cell.v (.bool false),lmc (trimz l)]]=Z (sgnv false (val l)):=zE hb rfl
theorem cutS{l:List Nat}{x:Nat}{i j:Int}(hx:x≤l.length∧∀j,x≤j→l.getD j 0=0)(h:x=0∨l.getD (x-1) 0≠0)(hi:i.toNat=0)(hj:j.toNat=x):Cell.sl 1 (List.drop i.toNat (List.take j.toNat (l.map λx=>[Cell.v (u32 x)])))=lmc (trimz l):=by
 rw [hi,hj,List.drop_zero,← List.map_take,trimz_take l x hx.1 hx.2 h]
theorem sg1{b:Bool}{l:List Nat}{x:Nat}{i j:Int}(hb:Lb l)(hx:x≤l.length∧∀j,x≤j→l.getD j 0=0)(h:x=0∨l.getD (x-1) 0≠0)(hi:i.toNat=0)(hj:j.toNat=x)(he:b=decide (((x:Nat):Int) > 0)):
 packA [AV.agg [Cell.v (.bool b),Cell.sl 1 (List.drop i.toNat (List.take j.toNat (l.map λx=>[Cell.v (u32 x)])))]]=Z (sgnv true (val l)):=by
 rw [cutS hx h hi hj]
 have hl:=congrArg List.length (trimz_take l x hx.1 hx.2 h)
 rw [List.length_take,Nat.min_eq_left hx.1] at hl
 exact zE1 hb (by rw [he,hl])
theorem sg0{l:List Nat}{x:Nat}{i j:Int}(hb:Lb l)(hx:x≤l.length∧∀j,x≤j→l.getD j 0=0)(h:x=0∨l.getD (x-1) 0≠0)(hi:i.toNat=0)(hj:j.toNat=x):
 packA [AV.agg [Cell.v (.bool false),Cell.sl 1 (List.drop i.toNat (List.take j.toNat (l.map λx=>[Cell.v (u32 x)])))]]=Z (sgnv false (val l)):=by
 rw [cutS hx h hi hj]
 exact zE0 hb
theorem dec64{n:Nat}(h0:0<n)(h:n≤9223372036854775807):some (AV.int .i64 (IntKind.i64.wrap ((n:Int)-1)))=some (AV.int .i64 ((n-1:Nat):Int)):=by
 rw [wi64 (by omega) (by omega)];congr 2;omega
theorem dec64'{n:Nat}(h:n≤9223372036854775807):some (AV.int .i64 (IntKind.i64.wrap ((n:Int)-1)))=some (AV.int .i64 ((n:Int)-1)):=by
 rw [wi64 (by omega) (by omega)]
theorem dec64m{n:Nat}(h0:0<n)(h:n≤9223372036854775807):some (AV.int .i64 (IntKind.i64.wrap ((n:Int)-1-1)))=some (AV.int .i64 (((n-1:Nat):Int)-1)):=by
 rw [wi64 (by omega) (by omega)];congr 2;omega
section
variable {a b:List Nat} {x:Nat}
theorem cm_len1(ha:CanL a)(hb:CanL b)(h:a.length<b.length):packA [AV.c (Cell.v (.int .i64 (-1)))]=AV.int .i64 (cmpN (val a) (val b)):=by rw [cmpN_lt (val_lt_of_length ha hb h)];rfl
theorem cm_len2(ha:CanL a)(hb:CanL b)(h:b.length<a.length):packA [AV.c (Cell.v (.int .i64 1))]=AV.int .i64 (cmpN (val a) (val b)):=by rw [cmpN_gt (val_lt_of_length hb ha h)];rfl
theorem cm_lt(ha:CanL a)(hb:CanL b)(hx:x≤a.length∧∀j,x≤j→a.getD j 0=b.getD j 0)(hl:a.length=b.length)(h0:0<x)(h:a.getD (x-1) 0<b.getD (x-1) 0):packA [AV.c (Cell.v (.int .i64 (-1)))]=AV.int .i64 (cmpN (val a) (val b)):=by
 rw [cmpN_lt (val_lt_of_limb (x-1) ha.1 hb.1 hl (by omega) (λj hj=>hx.2 j (by omega)) h)];rfl
theorem cm_gt(ha:CanL a)(hb:CanL b)(hx:x≤a.length∧∀j,x≤j→a.getD j 0=b.getD j 0)(hl:a.length=b.length)(h0:0<x)(h:b.getD (x-1) 0<a.getD (x-1) 0):packA [AV.c (Cell.v (.int .i64 1))]=AV.int .i64 (cmpN (val a) (val b)):=by
 rw [cmpN_gt (val_lt_of_limb (x-1) hb.1 ha.1 hl.symm (by omega) (λj hj=>(hx.2 j (by omega)).symm) h)];rfl
theorem cm_eq(hx:x≤a.length∧∀j,x≤j→a.getD j 0=b.getD j 0)(hl:a.length=b.length)(h0:x=0):packA [AV.c (Cell.v (.int .i64 0))]=AV.int .i64 (cmpN (val a) (val b)):=by
 rw [cmpN_eq (congrArg val (eq_of_limbs hl λj=>hx.2 j (by omega)))];rfl
theorem fz2(h:a.length=b.length):a.length≤a.length∧∀j,a.length≤j→a.getD j 0=b.getD j 0:=⟨Nat.le_refl _,λj hj=>by rw [getD_none hj,getD_none (by omega)]⟩
end
theorem tm9{v m:Int}(h:0≤v):v.tmod m=v % m:=Int.tmod_eq_emod_of_nonneg h
theorem td9{v m:Int}(h:0≤v):v.tdiv m=v / m:=Int.tdiv_eq_ediv_of_nonneg h
theorem setU{o:List Nat}{k d i T:Nat}{v:Int}(hi:i=k)(hv:v=(d:Int)):some (Bk.grow T 1 ((o.map λx=>[Cell.v (u32 x)]).set i [Cell.v (.int .u32 v)]))=some (Bk.grow T 1 ((o.set k d).map λx=>[Cell.v (u32 x)])):=by
 subst hi hv;rw [List.map_set];rfl
theorem zerosU(n T:Nat):some (Bk.grow T 1 (List.replicate n [Cell.v (.int .u32 0)]))=some (Bk.grow T 1 ((List.replicate n 0).map λx=>[Cell.v (u32 x)])):=by
 rw [List.map_replicate];rfl
theorem iS{k:IntKind}{a b:Int}(h:a=b):some (AV.int k a)=some (AV.int k b):=by rw [h]
theorem setM(l:List Nat)(i d:Nat):(l.map λx=>[Cell.v (u32 x)]).set i [Cell.v (.int .u32 ((d:Nat):Int))]=(l.set i d).map λx=>[Cell.v (u32 x)]:=by rw [List.map_set];rfl
theorem plus_fin{o x y:List Nat}{k cr v:Nat}(ho:o.length=x.length+1)(hk:k=x.length)(hy:y.length≤x.length)(hb:Lb o)(hc:cr≤1)(hv:val (o.take k)+1000000000 ^ k*cr=val (x.take k)+val (y.take k))(e:v=val x+val y):
 packA [AV.c (lmc (trimz (o.set x.length cr)))]=AV.c (lmc (lim v)):=lE (by
 have h1:=plus_end ho hk hy hv
 rw [e,← h1,lim_val _ (lb_set hb (by omega))])
theorem snocU{o:List Nat}{d T:Nat}{v:Int}(hv:v=(d:Int)):some (Bk.grow T 1 ((o.map λx=>[Cell.v (u32 x)])++[[Cell.v (.int .u32 v)]]))=some (Bk.grow T 1 ((o++[d]).map λx=>[Cell.v (u32 x)])):=by
 subst hv;rw [List.map_append];rfl
theorem gsE{b n m:Nat}(h:n=m):some (AV.gs b n)=some (AV.gs b m):=by rw [h]
theorem snocL{o:List Nat}{d:Nat}:Cell.sl 1 ((o.map λx=>[Cell.v (u32 x)])++[[Cell.v (.int .u32 ((d:Nat):Int))]])=lmc (o++[d]):=by
 unfold lmc;rw [List.map_append];rfl
theorem padE{l:List Nat}{n v:Nat}(h:Lb l)(hl:l.length=n)(hv:val l=v):packA [AV.c (lmc l)]=AV.c (lmc (pad n v)):=cE (lmc_pad h hl hv)
theorem snocE{l:List Nat}{d n v:Nat}(h:Lb l)(hd:d<1000000000)(hl:l.length+1=n)(hv:val l+1000000000 ^ l.length*d=v):packA [AV.c (.sl 1 ((l.map λx=>[Cell.v (u32 x)])++[[Cell.v (.int .u32 ((d:Nat):Int))]]))]=AV.c (lmc (pad n v)):=by
 rw [snocL]
 exact padE (lb_snoc h hd) (by simpa using hl) (by rw [val_snoc rfl];exact hv)
theorem minus_val{o x y:List Nat}{k br:Nat}(hbo:Lb o)(hx:Lb x)(ho:o.length=x.length)(hk:k=x.length)(hy:y.length≤x.length)(hle:val y≤val x)(hv:val (o.take k)+val (y.take k)=val (x.take k)+1000000000 ^ k*br):val o=val x-val y:=by
 subst hk
 have hlt:=val_lt o hbo
 have hx0:=val_lt x hx
 rw [val_take_all (l:=o) (by omega),val_take_all (l:=y) (by omega),val_take_all (l:=x) (by omega)] at hv
 rw [ho] at hlt
 exact minus_end hx0 hv hle hlt
theorem minus_fin{o x y:List Nat}{k br:Nat}(hbo:Lb o)(hx:Lb x)(ho:o.length=x.length)(hk:k=x.length)(hy:y.length≤x.length)(hle:val y≤val x)(hv:val (o.take k)+val (y.take k)=val (x.take k)+1000000000 ^ k*br):packA [AV.c (lmc (trimz o))]=AV.c (lmc (lim (val x-val y))) :=
 lE (by rw [← minus_val hbo hx ho hk hy hle hv,lim_val _ hbo])
theorem times_val{o a b:List Nat}{i:Nat}(ho:o.length=a.length+b.length)(hi:i=a.length)(hv:val (o.take (i+b.length))=val (a.take i)*val b):val o=val a*val b:=by
 subst hi
 rw [val_take_all (l:=o) (by omega),val_take_all (l:=a) (by omega)] at hv
 exact hv
theorem times_z(la lb:Nat)(a b:List Nat):val ((List.replicate (la+lb) 0).take (0+lb))=val (a.take 0)*val b:=by
 rw [List.take_replicate,val_zeros];simp [val]
theorem tn3{i k:Nat}:((i:Int)+(k:Int)).toNat=i+k:=by omega
theorem byw_fin{a o:List Nat}{b r:Nat}(h0:0<b)(hr:r<b)(ho:o.length=a.length)(hb:Lb o)(hv:val (a.drop 0)=b*val (o.drop 0)+r):
 packA [AV.c (lmc o),AV.c (.sl 1 [[Cell.v (.int .u32 ((r:Nat):Int))]])]=AV.tup [AV.c (lmc (pad a.length (val a / b))),AV.c (lmc [val a % b])]:=by
 rw [List.drop_zero,List.drop_zero] at hv
 have h1:val a / b=val o:=by rw [hv,Nat.mul_comm,Nat.add_comm,Nat.add_mul_div_right _ _ h0,Nat.div_eq_of_lt hr,Nat.zero_add]
 have h2:val a % b=r:=by rw [hv,Nat.mul_add_mod,Nat.mod_eq_of_lt hr]
 rw [h1,h2,← lmc_pad hb ho rfl]
 rfl
theorem split_fin{n:Nat}(h:n<1000000000000000000000000000){x y z:Int}(hx:x=((n % 1000000000:Nat):Int))(hy:y=((n / 1000000000 % 1000000000:Nat):Int))(hz:z=((n / 1000000000 / 1000000000:Nat):Int)):
 packA [AV.c (.sl 1 [[Cell.v (.int .u32 x)],[Cell.v (.int .u32 y)],[Cell.v (.int .u32 z)]])]=AV.c (lmc (pad 3 n)):=by
 subst hx hy hz
 refine cE ?_
 simp only [pad]
 rw [show n / 1000000000 / 1000000000 % 1000000000=n / 1000000000 / 1000000000 by omega]
 rfl
theorem lim_len3{n:Nat}(h:n<18446744073709551616):(lim n).length≤3:=lim_len_le (by omega)
theorem limbs_step{n m:Nat}{o:List Nat}(h:m≤n∧lim n=o++lim m)(h0:0<m):m / 1000000000≤n∧lim n=(o++[m % 1000000000])++lim (m / 1000000000):=by
 refine ⟨Nat.le_trans (Nat.div_le_self _ _) h.1, ?_⟩
 rw [h.2,lim_pos (by omega:m≠0)]
 simp
theorem limbs_end{n m:Nat}{o:List Nat}(h:m≤n∧lim n=o++lim m)(h0:m=0):packA [AV.c (lmc o)]=AV.c (lmc (lim n)):=lE (by rw [h.2,h0,lim_zero,List.append_nil])
theorem limbs_len{n m:Nat}{o:List Nat}(hn:n<18446744073709551616)(h:m≤n∧lim n=o++lim m)(h0:0<m):o.length+1≤3:=by
 have h1:=congrArg List.length h.2
 have h2:=lim_len3 hn
 rw [lim_pos (by omega:m≠0)] at h1
 simp at h1
 omega
theorem word_0{a:Int}(h:(lim a.natAbs).length=0):packA [AV.c (Cell.v (.int .u64 0)),AV.c (Cell.v (.bool true))]=AV.tup [.int .u64 ((if sz a≤2 then a.natAbs else 0:Nat):Int),.bool (decide (sz a≤2))]:=by
 have h1:sz a≤2:=by unfold sz;omega
 rw [if_pos h1,decide_eq_true h1,lim_len_zero.1 h];rfl
theorem word_1{a:Int}{x:Int}(h:(lim a.natAbs).length=1)(hx:x=(((lim a.natAbs).getD 0 0:Nat):Int)):packA [AV.c (Cell.v (.int .u64 x)),AV.c (Cell.v (.bool true))]=AV.tup [.int .u64 ((if sz a≤2 then a.natAbs else 0:Nat):Int),.bool (decide (sz a≤2))]:=by
 have h1:sz a≤2:=by unfold sz;omega
 rw [if_pos h1,decide_eq_true h1,hx,lim_one h];rfl
theorem word_2{a:Int}{x:Int}(h:(lim a.natAbs).length=2)(hx:x=(((lim a.natAbs).getD 1 0*1000000000+(lim a.natAbs).getD 0 0:Nat):Int)):packA [AV.c (Cell.v (.int .u64 x)),AV.c (Cell.v (.bool true))]=AV.tup [.int .u64 ((if sz a≤2 then a.natAbs else 0:Nat):Int),.bool (decide (sz a≤2))]:=by
 have h1:sz a≤2:=by unfold sz;omega
 rw [if_pos h1,decide_eq_true h1,hx,lim_two h];rfl
theorem word_3{a:Int}(h:2<(lim a.natAbs).length):packA [AV.c (Cell.v (.int .u64 0)),AV.c (Cell.v (.bool false))]=AV.tup [.int .u64 ((if sz a≤2 then a.natAbs else 0:Nat):Int),.bool (decide (sz a≤2))]:=by
 have h1:¬sz a≤2:=by unfold sz;omega
 rw [if_neg h1,decide_eq_false h1];rfl
theorem tz0:Int.toNat 0=0:=rfl
theorem tz1:Int.toNat 1=1:=rfl
theorem pk9(r g:Nat):((r:Int)*1000000000+(g:Int))=((r*1000000000+g:Nat):Int):=by omega
theorem dvc(t b:Nat):(t:Int) / (b:Int)=((t / b:Nat):Int):=rfl
theorem mdc(t b:Nat):(t:Int) % (b:Int)=((t % b:Nat):Int):=rfl
theorem byw_back{a:List Nat}{b:Nat}(ha:Lb a)(h0:0<b)(h1:b<1000000000):Lb (pad a.length (val a / b))∧Lb [val a % b]∧val a=b*val (pad a.length (val a / b))+val [val a % b]∧val [val a % b]<b∧(pad a.length (val a / b)).length=a.length∧[val a % b].length=1:=by
 have hm:=Nat.mod_lt (val a) h0
 have hv:val [val a % b]=val a % b:=by simp [val]
 refine ⟨lb_pad _ _,Lb.cons (by omega) Lb.nil, ?_,by rw [hv];exact hm,pad_len _ _,rfl⟩
 rw [val_pad _ _ (Nat.lt_of_le_of_lt (Nat.div_le_self _ _) (val_lt a ha)),hv,Nat.div_add_mod]
def dsc(b:List Nat):Nat:=1000000000 / ((trimz b).getD ((trimz b).length-1) 0+1)
def dql(a b:List Nat):Nat:=if (trimz b).length=1 then (trimz a).length else if val a<val b then 0 else (trimz a).length+2-(trimz b).length
def drl(a b:List Nat):Nat:=if (trimz b).length=1 then 1 else if val a<val b then (trimz a).length else (lim (val a % val b*dsc b)).length
theorem div_rl{a b U:List Nat}{n q rs:Nat}(hb:Lb U)(hv:val (U.take n)=val U)(h1:val a*dsc b=val b*dsc b*q+val U)(h2:val a=val b*q+rs)(h3:rs<val b):(trimz (U.take n)).length=(lim (val a % val b*dsc b)).length:=by
 have e1:val a % val b=rs:=by rw [h2,Nat.mul_add_mod,Nat.mod_eq_of_lt h3]
 have e2:val U=rs*dsc b:=by
  rw [h2,Nat.add_mul] at h1
  have:val b*q*dsc b=val b*dsc b*q:=by grind
  omega
 rw [e1,← e2,← hv,lim_val _ (hb.take n)]
theorem dsc_pos{b:List Nat}(hb:Lb b):0<dsc b:=by
 have:=(trimz_lb hb).getD ((trimz b).length-1)
 unfold dsc
 exact Nat.div_pos (by omega) (by omega)
theorem val_dq{a b:List Nat}(ha:Lb a)(hb:Lb b)(h0:0<val b):val (pad (dql a b) (val a / val b))=val a / val b:=by
 refine val_pad _ _ ?_
 have hva:=val_lt _ (trimz_lb ha)
 rw [val_trimz] at hva
 unfold dql
 split
 ·exact Nat.lt_of_le_of_lt (Nat.div_le_self _ _) hva
 ·split
  ·rw [Nat.div_eq_of_lt (by assumption)];decide
  ·rename_i h1 h2
   have hne:trimz b≠[]:=λe=>by have:=val_trimz b;rw [e] at this;simp [val] at this;omega
   have hp:=can_pow (can_trimz hb) hne
   rw [val_trimz] at hp
   have hl:0<(trimz b).length:=List.length_pos_iff.2 hne
   have hle:(trimz b).length≤(trimz a).length:=by
    rcases Nat.lt_or_ge (trimz a).length (trimz b).length with h|h
    ·have:=val_lt_of_length (can_trimz ha) (can_trimz hb) h
     rw [val_trimz,val_trimz] at this;omega
    ·exact h
   rw [Nat.div_lt_iff_lt_mul h0]
   refine Nat.lt_of_lt_of_le hva (Nat.le_trans ?_ (Nat.mul_le_mul_left _ hp))
   rw [← Nat.pow_add]
   exact Nat.pow_le_pow_right (by decide) (by omega)
theorem val_dr{a b:List Nat}(ha:Lb a)(hb:Lb b)(h0:0<val b):val (pad (drl a b) (val a % val b))=val a % val b:=by
 refine val_pad _ _ ?_
 have hm:=Nat.mod_lt (val a) h0
 have hvb:=val_lt _ (trimz_lb hb)
 have hva:=val_lt _ (trimz_lb ha)
 rw [val_trimz] at hva hvb
 unfold drl
 split
 ·rename_i h;rw [h] at hvb;omega
 ·split
  ·exact Nat.lt_of_le_of_lt (Nat.mod_le _ _) hva
  ·have:=val_lt _ (lb_lim (val a % val b*dsc b))
   rw [val_lim] at this
   exact Nat.lt_of_le_of_lt (Nat.le_mul_of_pos_right _ (dsc_pos hb)) this
end Go.Sw
namespace Go.Proofs.YtbbfmlhkgceabaaGreat
open Go Go.RowKit Go.Sw
set_option linter.unusedVariables false
set_option maxRecDepth 100000
set_option maxHeartbeats 8000000
instance i_trim(l:List Nat):DenI Tryz.prog 147 [.c (lmc l)] (True) (.c (lmc (trimz l))):=⟨λhp=>by
 refine den_len (by kernel_rfl) (λhl=>?_)
 simp only [lenA,lenC,cellsOf,List.length_map,and_true,true_and] at hl
 all_goals refine den_of (τ:=tab) tab_ok mixed_ Tryz.func147 rfl (by kernel_rfl) (by kernel_rfl) (by kernel_rfl) ?_
 all_goals (repeat' ((try (conv=>whnf));first
  |refine call_0 ?_
  |refine call_i ?_ ?_
  |(with_reducible refine onB_t ?_)
  |(with_reducible refine onB_f ?_)
  |(with_reducible refine onB_d (λ_=>?_) (λ_=>?_))
  |(with_reducible refine onB_n (λ_=>?_) (λ_=>?_))
  |refine OnB.mk (λ_=>?_) (λ_=>?_)
  |refine obl_i ?_ ?_
  |refine Drw.mk (by kernel_rfl) ?_
  |refine mks_i ?_ ?_
  |refine slp_i ?_ ?_
  |(with_reducible refine elem_u ?_ ?_)
  |(with_reducible refine elem_0 ?_)
  |(with_reducible refine elem_1 ?_)
  |refine Ends.mk ?_))
 all_goals (try refine Pr.mk ?_)
 all_goals first
  |((conv=>whnf);refine Sw.Loop.inv (α:=Nat) (λx=>[(0,.c (lmc (l.take x)))]) (λx=>[]) (λx=>x≤l.length∧∀j,x≤j→l.getD j 0=0) (λx=>x) l.length ?_ ?_ ?_ (λx hx=>?_))
  |skip
 all_goals (repeat' ((try (conv=>whnf));first
  |refine call_0 ?_
  |refine call_i ?_ ?_
  |(with_reducible refine onB_t ?_)
  |(with_reducible refine onB_f ?_)
  |(with_reducible refine onB_d (λ_=>?_) (λ_=>?_))
  |(with_reducible refine onB_n (λ_=>?_) (λ_=>?_))
  |refine OnB.mk (λ_=>?_) (λ_=>?_)
  |refine obl_i ?_ ?_
  |refine Drw.mk (by kernel_rfl) ?_
  |refine mks_i ?_ ?_
  |refine slp_i ?_ ?_
  |(with_reducible refine elem_u ?_ ?_)
  |(with_reducible refine elem_0 ?_)
  |(with_reducible refine elem_1 ?_)
  |refine Ends.mk ?_))
 all_goals (try refine Pr.mk ?_)
 all_goals first|(show SubE _ _;repeat' (first|exact trivial|refine And.intro ?_ ?_))|(show SubB _ _;repeat' (first|exact trivial|refine And.intro ?_ ?_))|skip
 all_goals (try rfl)
 all_goals (try simp (disch:=omega) only [List.length_map,List.length_take,Int.toNat_natCast,List.length_replicate,wi64,wu32,wu64,minl,tn1,tn2,tm9,td9] at *)
 all_goals first
  |(rw [List.take_length];rfl)
  |exact ⟨Nat.le_refl _,λj hj=>getD_none hj⟩
  |exact trim_end hx (.inl (by omega))
  |exact trim_end hx (.inr (by omega))
  |((conv=>whnf);exact ⟨x-1,⟨⟨cut1 hx.1 (by omega) (by simp only [Option.getD_some];omega),trivial⟩,⟨⟩,⟨by omega,zero_step hx.2 (take_zero (by omega) (by omega))⟩,by show x-1<x;omega⟩⟩)
  |((repeat' apply And.intro)<;>first|omega|(simp;done)|(simp;omega))
  |skip⟩
instance ri_trim(l:List Nat):DenI Tryz.prog 140 [.c (lmc l)] (True) (.c (lmc (trimz l))):=⟨λhp=>by
 refine den_len (by kernel_rfl) (λhl=>?_)
 simp only [lenA,lenC,cellsOf,List.length_map,and_true,true_and] at hl
 all_goals refine den_of (τ:=tab) tab_ok mixed_ Tryz.func140 rfl (by kernel_rfl) (by kernel_rfl) (by kernel_rfl) ?_
 all_goals (repeat' ((try (conv=>whnf));first
  |refine call_0 ?_
  |refine call_i ?_ ?_
  |(with_reducible refine onB_t ?_)
  |(with_reducible refine onB_f ?_)
  |(with_reducible refine onB_d (λ_=>?_) (λ_=>?_))
  |(with_reducible refine onB_n (λ_=>?_) (λ_=>?_))
  |refine OnB.mk (λ_=>?_) (λ_=>?_)
  |refine obl_i ?_ ?_
  |refine Drw.mk (by kernel_rfl) ?_
  |refine mks_i ?_ ?_
  |refine slp_i ?_ ?_
  |(with_reducible refine elem_u ?_ ?_)
  |(with_reducible refine elem_0 ?_)
  |(with_reducible refine elem_1 ?_)
  |refine Ends.mk ?_))
 all_goals (try refine Pr.mk ?_)
 all_goals first
  |((conv=>whnf);refine Sw.Loop.inv (α:=Nat) (λx=>[(0,.c (lmc (l.take x)))]) (λx=>[]) (λx=>x≤l.length∧∀j,x≤j→l.getD j 0=0) (λx=>x) l.length ?_ ?_ ?_ (λx hx=>?_))
  |skip
 all_goals (repeat' ((try (conv=>whnf));first
  |refine call_0 ?_
  |refine call_i ?_ ?_
  |(with_reducible refine onB_t ?_)
  |(with_reducible refine onB_f ?_)
  |(with_reducible refine onB_d (λ_=>?_) (λ_=>?_))
  |(with_reducible refine onB_n (λ_=>?_) (λ_=>?_))
  |refine OnB.mk (λ_=>?_) (λ_=>?_)
  |refine obl_i ?_ ?_
  |refine Drw.mk (by kernel_rfl) ?_
  |refine mks_i ?_ ?_
  |refine slp_i ?_ ?_
  |(with_reducible refine elem_u ?_ ?_)
  |(with_reducible refine elem_0 ?_)
  |(with_reducible refine elem_1 ?_)
  |refine Ends.mk ?_))
 all_goals (try refine Pr.mk ?_)
 all_goals first|(show SubE _ _;repeat' (first|exact trivial|refine And.intro ?_ ?_))|(show SubB _ _;repeat' (first|exact trivial|refine And.intro ?_ ?_))|skip
 all_goals (try rfl)
 all_goals (try simp (disch:=omega) only [List.length_map,List.length_take,Int.toNat_natCast,List.length_replicate,wi64,wu32,wu64,minl,tn1,tn2,tm9,td9] at *)
 all_goals first
  |(rw [List.take_length];rfl)
  |exact ⟨Nat.le_refl _,λj hj=>getD_none hj⟩
  |exact trim_end hx (.inl (by omega))
  |exact trim_end hx (.inr (by omega))
  |((conv=>whnf);exact ⟨x-1,⟨⟨cut1 hx.1 (by omega) (by simp only [Option.getD_some];omega),trivial⟩,⟨⟩,⟨by omega,zero_step hx.2 (take_zero (by omega) (by omega))⟩,by show x-1<x;omega⟩⟩)
  |((repeat' apply And.intro)<;>first|omega|(simp;done)|(simp;omega))
  |skip⟩
instance i_signed(neg:Bool)(l:List Nat):DenI Tryz.prog 97 [.bool neg,.c (lmc l)] (Lb l) (Z (sgnv neg (val l))):=⟨λhp=>by
 refine den_len (by kernel_rfl) (λhl=>?_)
 simp only [lenA,lenC,cellsOf,List.length_map,and_true,true_and] at hl
 all_goals refine den_of (τ:=tab) tab_ok mixed_ Tryz.func97 rfl (by kernel_rfl) (by kernel_rfl) (by kernel_rfl) ?_
 all_goals (repeat' ((try (conv=>whnf));first
  |refine call_0 ?_
  |refine call_i ?_ ?_
  |(with_reducible refine onB_t ?_)
  |(with_reducible refine onB_f ?_)
  |(with_reducible refine onB_d (λ_=>?_) (λ_=>?_))
  |(with_reducible refine onB_n (λ_=>?_) (λ_=>?_))
  |refine OnB.mk (λ_=>?_) (λ_=>?_)
  |refine obl_i ?_ ?_
  |refine Drw.mk (by kernel_rfl) ?_
  |refine mks_i ?_ ?_
  |refine slp_i ?_ ?_
  |(with_reducible refine elem_u ?_ ?_)
  |(with_reducible refine elem_0 ?_)
  |(with_reducible refine elem_1 ?_)
  |refine Ends.mk ?_))
 all_goals (try refine Pr.mk ?_)
 all_goals first
  |((conv=>whnf);refine Sw.Loop.inv (α:=Nat) (λx=>[(0,.bool neg),(1,.c (lmc l)),(4,.ptr 4 0),(5,.int .i64 x)]) (λx=>[(4,.var [.v (.bool false),.sl 1 []])]) (λx=>x≤l.length∧∀j,x≤j→l.getD j 0=0) (λx=>x) l.length ?_ ?_ ?_ (λx hx=>?_))
  |skip
 all_goals (repeat' ((try (conv=>whnf));first
  |refine call_0 ?_
  |refine call_i ?_ ?_
  |(with_reducible refine onB_t ?_)
  |(with_reducible refine onB_f ?_)
  |(with_reducible refine onB_d (λ_=>?_) (λ_=>?_))
  |(with_reducible refine onB_n (λ_=>?_) (λ_=>?_))
  |refine OnB.mk (λ_=>?_) (λ_=>?_)
  |refine obl_i ?_ ?_
  |refine Drw.mk (by kernel_rfl) ?_
  |refine mks_i ?_ ?_
  |refine slp_i ?_ ?_
  |(with_reducible refine elem_u ?_ ?_)
  |(with_reducible refine elem_0 ?_)
  |(with_reducible refine elem_1 ?_)
  |refine Ends.mk ?_))
 all_goals (try refine Pr.mk ?_)
 all_goals first|(show SubE _ _;repeat' (first|exact trivial|refine And.intro ?_ ?_))|(show SubB _ _;repeat' (first|exact trivial|refine And.intro ?_ ?_))|skip
 all_goals (try rfl)
 all_goals (try simp (disch:=omega) only [List.length_map,List.length_take,Int.toNat_natCast,List.length_replicate,wi64,wu32,wu64,minl,tn1,tn2,tm9,td9] at *)
 all_goals first
  |(subst neg;exact sg1 hp hx (.inl (by omega)) rfl (by simp only [Option.getD_some];omega) rfl)
  |(subst neg;exact sg0 hp hx (.inl (by omega)) rfl (by simp only [Option.getD_some];omega))
  |(subst neg;exact sg1 hp hx (.inr (by omega)) rfl (by simp only [Option.getD_some];omega) rfl)
  |(subst neg;exact sg0 hp hx (.inr (by omega)) rfl (by simp only [Option.getD_some];omega))
  |exact ⟨Nat.le_refl _,λj hj=>getD_none hj⟩
  |rfl
  |((conv=>whnf);exact ⟨x-1,⟨⟨rfl,rfl,rfl,dec64 (by omega) (by omega),trivial⟩,⟨rfl,trivial⟩,⟨by omega,zero_step hx.2 (by omega)⟩,by show x-1<x;omega⟩⟩)
  |((repeat' apply And.intro)<;>first|omega|(simp;done)|(simp;omega))
  |skip⟩
instance ri_signed(neg:Bool)(l:List Nat):DenI Tryz.prog 89 [.bool neg,.c (lmc l)] (Lb l) (Z (sgnv neg (val l))):=⟨λhp=>by
 refine den_len (by kernel_rfl) (λhl=>?_)
 simp only [lenA,lenC,cellsOf,List.length_map,and_true,true_and] at hl
 all_goals refine den_of (τ:=tab) tab_ok mixed_ Tryz.func89 rfl (by kernel_rfl) (by kernel_rfl) (by kernel_rfl) ?_
 all_goals (repeat' ((try (conv=>whnf));first
  |refine call_0 ?_
  |refine call_i ?_ ?_
  |(with_reducible refine onB_t ?_)
  |(with_reducible refine onB_f ?_)
  |(with_reducible refine onB_d (λ_=>?_) (λ_=>?_))
  |(with_reducible refine onB_n (λ_=>?_) (λ_=>?_))
  |refine OnB.mk (λ_=>?_) (λ_=>?_)
  |refine obl_i ?_ ?_
  |refine Drw.mk (by kernel_rfl) ?_
  |refine mks_i ?_ ?_
  |refine slp_i ?_ ?_
  |(with_reducible refine elem_u ?_ ?_)
  |(with_reducible refine elem_0 ?_)
  |(with_reducible refine elem_1 ?_)
  |refine Ends.mk ?_))
 all_goals (try refine Pr.mk ?_)
 all_goals first
  |(subst neg;exact zE1 hp (by rw [List.length_map]))
  |(subst neg;exact zE0 hp)
  |skip⟩
instance i_compare(a b:List Nat):DenI Tryz.prog 96 [.c (lmc a),.c (lmc b)] (Lb a∧Lb b) (.int .i64 (cmpN (val a) (val b))):=⟨λhp=>by
 refine den_len (by kernel_rfl) (λhl=>?_)
 simp only [lenA,lenC,cellsOf,List.length_map,and_true,true_and] at hl
 have ha:=trimz_length_le a;have hb:=trimz_length_le b
 all_goals refine den_of (τ:=tab) tab_ok mixed_ Tryz.func96 rfl (by kernel_rfl) (by kernel_rfl) (by kernel_rfl) ?_
 all_goals (repeat' ((try (conv=>whnf));first
  |refine call_0 ?_
  |refine call_i ?_ ?_
  |(with_reducible refine onB_t ?_)
  |(with_reducible refine onB_f ?_)
  |(with_reducible refine onB_d (λ_=>?_) (λ_=>?_))
  |(with_reducible refine onB_n (λ_=>?_) (λ_=>?_))
  |refine OnB.mk (λ_=>?_) (λ_=>?_)
  |refine obl_i ?_ ?_
  |refine Drw.mk (by kernel_rfl) ?_
  |refine mks_i ?_ ?_
  |refine slp_i ?_ ?_
  |(with_reducible refine elem_u ?_ ?_)
  |(with_reducible refine elem_0 ?_)
  |(with_reducible refine elem_1 ?_)
  |refine Ends.mk ?_))
 all_goals (try refine Pr.mk ?_)
 all_goals first
  |((conv=>whnf);refine Sw.Loop.inv (α:=Nat) (λx=>[(0,.c (lmc (trimz a))),(1,.c (lmc (trimz b))),(5,.int .i64 ((x:Int)-1))]) (λx=>[]) (λx=>x≤(trimz a).length∧∀j,x≤j→(trimz a).getD j 0=(trimz b).getD j 0) (λx=>x) ((trimz a).length) ?_ ?_ ?_ (λx hx=>?_))
  |skip
 all_goals (repeat' ((try (conv=>whnf));first
  |refine call_0 ?_
  |refine call_i ?_ ?_
  |(with_reducible refine onB_t ?_)
  |(with_reducible refine onB_f ?_)
  |(with_reducible refine onB_d (λ_=>?_) (λ_=>?_))
  |(with_reducible refine onB_n (λ_=>?_) (λ_=>?_))
  |refine OnB.mk (λ_=>?_) (λ_=>?_)
  |refine obl_i ?_ ?_
  |refine Drw.mk (by kernel_rfl) ?_
  |refine mks_i ?_ ?_
  |refine slp_i ?_ ?_
  |(with_reducible refine elem_u ?_ ?_)
  |(with_reducible refine elem_0 ?_)
  |(with_reducible refine elem_1 ?_)
  |refine Ends.mk ?_))
 all_goals (try refine Pr.mk ?_)
 all_goals first|(show SubE _ _;repeat' (first|exact trivial|refine And.intro ?_ ?_))|(show SubB _ _;repeat' (first|exact trivial|refine And.intro ?_ ?_))|skip
 all_goals (try rfl)
 all_goals (try simp (disch:=omega) only [List.length_map,List.length_take,Int.toNat_natCast,List.length_replicate,wi64,wu32,wu64,minl,tn1,tn2,tm9,td9] at *)
 all_goals (try simp only [← val_trimz a,← val_trimz b])
 all_goals first
  |exact hp
  |exact cm_len1 (can_trimz hp.1) (can_trimz hp.2) (by omega)
  |exact cm_len2 (can_trimz hp.1) (can_trimz hp.2) (by omega)
  |exact cm_lt (can_trimz hp.1) (can_trimz hp.2) hx (by omega) (by omega) (by omega)
  |exact cm_gt (can_trimz hp.1) (can_trimz hp.2) hx (by omega) (by omega) (by omega)
  |exact cm_eq hx (by omega) (by omega)
  |exact fz2 (by omega)
  |exact dec64' (by omega)
  |((conv=>whnf);exact ⟨x-1,⟨⟨rfl,rfl,dec64m (by omega) (by omega),trivial⟩,⟨⟩,⟨by omega,agree_step hx.2 (by omega)⟩,by show x-1<x;omega⟩⟩)
  |(rw [wi64 (by omega) (by omega)])
  |rfl
  |((repeat' apply And.intro)<;>first|omega|(simp;done)|(simp;omega))
  |skip⟩
instance ri_compare(a b:List Nat):DenI Tryz.prog 145 [.c (lmc a),.c (lmc b)] (CanL a∧CanL b) (.int .i64 (cmpN (val a) (val b))):=⟨λhp=>by
 refine den_len (by kernel_rfl) (λhl=>?_)
 simp only [lenA,lenC,cellsOf,List.length_map,and_true,true_and] at hl
 all_goals refine den_of (τ:=tab) tab_ok mixed_ Tryz.func145 rfl (by kernel_rfl) (by kernel_rfl) (by kernel_rfl) ?_
 all_goals (repeat' ((try (conv=>whnf));first
  |refine call_0 ?_
  |refine call_i ?_ ?_
  |(with_reducible refine onB_t ?_)
  |(with_reducible refine onB_f ?_)
  |(with_reducible refine onB_d (λ_=>?_) (λ_=>?_))
  |(with_reducible refine onB_n (λ_=>?_) (λ_=>?_))
  |refine OnB.mk (λ_=>?_) (λ_=>?_)
  |refine obl_i ?_ ?_
  |refine Drw.mk (by kernel_rfl) ?_
  |refine mks_i ?_ ?_
  |refine slp_i ?_ ?_
  |(with_reducible refine elem_u ?_ ?_)
  |(with_reducible refine elem_0 ?_)
  |(with_reducible refine elem_1 ?_)
  |refine Ends.mk ?_))
 all_goals (try refine Pr.mk ?_)
 all_goals first
  |((conv=>whnf);refine Sw.Loop.inv (α:=Nat) (λx=>[(0,.c (lmc (a))),(1,.c (lmc (b))),(5,.int .i64 ((x:Int)-1))]) (λx=>[]) (λx=>x≤(a).length∧∀j,x≤j→(a).getD j 0=(b).getD j 0) (λx=>x) ((a).length) ?_ ?_ ?_ (λx hx=>?_))
  |skip
 all_goals (repeat' ((try (conv=>whnf));first
  |refine call_0 ?_
  |refine call_i ?_ ?_
  |(with_reducible refine onB_t ?_)
  |(with_reducible refine onB_f ?_)
  |(with_reducible refine onB_d (λ_=>?_) (λ_=>?_))
  |(with_reducible refine onB_n (λ_=>?_) (λ_=>?_))
  |refine OnB.mk (λ_=>?_) (λ_=>?_)
  |refine obl_i ?_ ?_
  |refine Drw.mk (by kernel_rfl) ?_
  |refine mks_i ?_ ?_
  |refine slp_i ?_ ?_
  |(with_reducible refine elem_u ?_ ?_)
  |(with_reducible refine elem_0 ?_)
  |(with_reducible refine elem_1 ?_)
  |refine Ends.mk ?_))
 all_goals (try refine Pr.mk ?_)
 all_goals first|(show SubE _ _;repeat' (first|exact trivial|refine And.intro ?_ ?_))|(show SubB _ _;repeat' (first|exact trivial|refine And.intro ?_ ?_))|skip
 all_goals (try rfl)
 all_goals (try simp (disch:=omega) only [List.length_map,List.length_take,Int.toNat_natCast,List.length_replicate,wi64,wu32,wu64,minl,tn1,tn2,tm9,td9] at *)
 all_goals first
  |exact hp
  |exact cm_len1 hp.1 hp.2 (by omega)
  |exact cm_len2 hp.1 hp.2 (by omega)
  |exact cm_lt hp.1 hp.2 hx (by omega) (by omega) (by omega)
  |exact cm_gt hp.1 hp.2 hx (by omega) (by omega) (by omega)
  |exact cm_eq hx (by omega) (by omega)
  |exact fz2 (by omega)
  |exact dec64' (by omega)
  |((conv=>whnf);exact ⟨x-1,⟨⟨rfl,rfl,dec64m (by omega) (by omega),trivial⟩,⟨⟩,⟨by omega,agree_step hx.2 (by omega)⟩,by show x-1<x;omega⟩⟩)
  |(rw [wi64 (by omega) (by omega)])
  |rfl
  |((repeat' apply And.intro)<;>first|omega|(simp;done)|(simp;omega))
  |skip⟩
end Go.Proofs.YtbbfmlhkgceabaaGreat
