/-
  Rules of the abstract run, plain laws, and what functions answer, for the law RepairJoins.
  Conditions: none.
-/
import Derived.Test.YtmniihkenijjpaaGreatDoorX6
import Derived.OpenShut
import Derived.Lib.SmallJoins
import Derived.Test.YtmniihkenijjpaaGreatDoorRows
import Derived.Test.YtmniihkenijjpaaGreatDoorTie
import Derived.Test.YtmniihkenijjpaaGreatDoorCards
import Derived.Lay
import Derived.SevenTiedAt
import Derived.ProofKit
import Derived.Test.YtmniihkenijjpaaGreatDoorChecked
import Derived.Maps.Keyed
import Derived.Maps.StringElems
import Derived.LaidMore
import Derived.Shelf.LaysM
import Derived.Shelf.Strconv.Itoa1
import Derived.Shelf.Strconv.Itoa2
import Derived.Lib.Walk
import Derived.Lib.ItoaMem
import Derived.Lib.ItoaLen
import Derived.Lib.AppendIntMem
import Derived.WalkKit
import Derived.BigCall
import Derived.BigGuard
import Derived.Lib.Itoa
import Derived.Lib.ItoaNum
set_option linter.all false
namespace Go.Sw
open Go Go.RowKit
def Ex.x:Ex→Exit
 |.normal => .normal
 |.ret => .ret
 |.exit id => .exit id
theorem Ghs.none_(w0 w:World):Ghs w0 w [] (λ_=>none):=⟨λ_ _ _ h=>by simp at h,λ_ _ _ _ _ _ h=>by simp at h,λ_ _ _ _ _ _ h=>by simp at h⟩
section
variable {P:Program} [Wld P] [Kp] [Gr] {τ:Tab} {N:Nat} {w0:World} {X0:List Nat}
variable [hwo:WOk P w0]
def LW(P:Program)(c:Code)(Q:Exit→Act→World→Prop)(a:Act)(w:World):Prop:=∀b k cs,∃e a' w',Q e a' w'∧Arrives P (lone (b.at a (.code c :: .inLoop c::k)) cs w) b k cs e a' w'
theorem LW.loop{c:Code}{Q:Exit→Act→World→Prop}{a:Act}{w:World}(h:LW P c Q a w):(Code.loop c).wp P Q a w:=by
 intro b k cs;obtain⟨e,a',w',hq,harr⟩:=h b k cs;exact⟨e,a',w',hq,.of_steps (.one step_loop) harr⟩
theorem LW.step{c:Code}{Q:Exit→Act→World→Prop}{a:Act}{w:World}(h:c.wp P (Exit.then (LW P c Q) Q) a w):LW P c Q a w:=by
 intro b k cs;obtain⟨e,a₁,w₁,hq,harr⟩:=h b (.inLoop c::k) cs;cases e with
 |normal =>
  obtain⟨e₂,a₂,w₂,hq₂,harr₂⟩:=hq b k cs;exact⟨e₂,a₂,w₂,hq₂,.of_steps (Steps.trans harr (.one step_inLoop)) harr₂⟩
 |exit id=>exact⟨_,a₁,w₁,hq,.pass (x:=.inLoop c) rfl (λ_ _ => .inl (by simp)) harr⟩
 |goto l=>exact⟨_,a₁,w₁,hq,.pass (x:=.inLoop c) rfl (λ_ _ => .inl (by simp)) harr⟩
 |ret=>exact⟨_,a₁,w₁,hq,.pass (x:=.inLoop c) rfl (λ_ _ => .inl (by simp)) harr⟩
 |panic ch=>exact⟨_,a₁,w₁,hq,.pass (x:=.inLoop c) rfl (λ_ _ => .inl (by simp)) harr⟩
 |outgrown=>exact⟨_,a₁,w₁,hq,.pass (x:=.inLoop c) rfl (λ_ _ => .inl (by simp)) harr⟩
theorem Vo{id:Nat}{ops:Array Oper}{dr:Bool}{QA:Ex→Env→aN→Prop}{Q:Exit→Act→World→Prop}{e:Env}{b:aN}{a:Act}{w:World}(hτ:dN P τ=true)(hm:P.follows .mixedOrders=true)(ht:iU N (.region id ops dr)=true)(hc:Conc N w0 X0 e b a w)
 (hk:GU (Den P) τ dr ops.toList e b (QA .normal)) (hQ:∀e b a w,QA .normal e b→Conc N w0 X0 e b a w→Q .normal a w):(Code.region id ops dr).wp P Q a w:=by
 obtain⟨l⟩:=ops;simp only[iU,eF]at ht;cases dr with
 |false =>
  simp only[GU]at hk;exact aI (wY hτ hQ ht.1 hk hc)
 |true =>
  simp only[Bool.not_true,Xp,eF]at ht;exact XY hwo hτ hm ht.2.1 ht.2.2 ht.1 hc hk hQ
theorem SubE.get:∀{e₀ e:Env},SubE e₀ e→∀{t:Nat} {v:AV},ld t e₀=some v→ld t e=some v
 |[],e,_,t,v,h=>by simp[ld]at h
 |(s,u)::r,e,hs,t,v,h=>by
  by_cases hst:s=t
  ·subst hst;rw[aO]at h;cases h;exact hs.1
  ·rw[aX _ _ hst]at h;exact SubE.get hs.2 h
theorem SubB.get:∀{e₀ e:aN},SubB e₀ e→∀{t:Nat} {v:Bk},ld t e₀=some v→ld t e=some v
 |[],e,_,t,v,h=>by simp[ld]at h
 |(s,u)::r,e,hs,t,v,h=>by
  by_cases hst:s=t
  ·subst hst;rw[aO]at h;cases h;exact hs.1
  ·rw[aX _ _ hst]at h;exact SubB.get hs.2 h
theorem Conc.sub{e e':Env}{b b':aN}{a:Act}{w:World}(h:Conc N w0 X0 e' b' a w)(he:SubE e e')(hb:SubB b b'):Conc N w0 X0 e b a w:=by
 obtain⟨S,M,h⟩:=h;exact⟨S,M,h.ms,h.x0,h.sz,h.df,λt v hv=>h.env t v (he.get hv),λi x hx=>h.box i x (hb.get hx)⟩
theorem Conc.ghost{e:Env}{b:aN}{a:Act}{w:World}{t i T s:Nat}(h:Conc N w0 X0 e b a w)(ht:ld t e=some (.c (.v (.slice none 0 0))))(hm:mention [i] e=false)(hi:ld i b=none)(hs:0<s)(hmb:gZ [i] b=false):Conc N w0 X0 ((t,.gs i 0)::e) ((i,.grow T s [])::b) a w:=by
 obtain⟨S,M,h⟩:=h;refine⟨S,M.set i ⟨false,true,none,T,s,0,0,[],none⟩,⟨h.ms.st,h.ms.gh.set (λx hx=>by cases hx) (λ_ _ _ _ _ _ _ h=>h) (λ_ _ _ h=>h) (λg' h1 h2=>by cases h2),λc mc hc hco gc hgc=>?_,λc c' mc mc' gc h1 h2 h3 h4 h5 h6=>?_⟩,h.x0,h.sz,h.df,λc v hv=>?_,λc x hx=>?_⟩
 ·by_cases hci:c=i
  ·subst hci;rw[MM.set_same]at hc;cases hc;cases hgc
  ·rw[MM.set_other _ _ hci]at hc;exact h.ms.inS c mc hc hco gc hgc
 ·by_cases hci:c=i
  ·subst hci;rw[MM.set_same]at h1;cases h1;cases h5
  ·by_cases hci':c'=i
   ·subst hci';rw[MM.set_same]at h2;cases h2;cases h6
   ·rw[MM.set_other _ _ hci]at h1;rw[MM.set_other _ _ hci']at h2;exact h.ms.inj c c' mc mc' gc h1 h2 h3 h4 h5 h6
 ·by_cases hct:t=c
  ·subst hct;rw[aO]at hv;cases hv;refine .gs (MM.set_same _ _ _) rfl (jE _) (λ_=>?_) ?_
   ·exact(h.env _ _ ht).v_
   ·rw[(h.env _ _ ht).v_];exact⟨_,_,rfl⟩
  ·rw[aX _ _ hct]at hv;refine(h.env c v hv).ext (Ext.refl _ _) λj hj m hm'=>⟨m, ?_,Comp.refl m⟩
   have hne:j≠i:=λe=>by subst e;exact jQ hm hv j hj (by simp)
   rw[MM.set_other _ _ hne];exact hm'
 ·by_cases hci:i=c
  ·subst hci;rw[aO]at hx;cases hx;exact⟨_,MM.set_same _ _ _,rfl,rfl,rfl,⟨rfl,hs⟩,rfl,.inl ⟨rfl,rfl,rfl⟩⟩
  ·rw[aX _ _ hci]at hx;obtain⟨m,h1,h2⟩:=h.box c x hx;exact⟨m,by rw[MM.set_other _ _ (λe=>hci e.symm)];exact h1,h2.ext (Ext.refl _ _) λc hc mc hmc=>⟨mc,by rw[MM.set_other _ _ (λe=>by subst e;exact je hmb _ x hx c hc (by simp))];exact hmc,Comp.refl mc⟩⟩
theorem eP(hτ:dN P τ=true)(hm:P.follows .mixedOrders=true):∀(c:Code) {QA:Ex→Env→aN→Prop} {Q:Exit→Act→World→Prop} {e:Env} {b:aN} {a:Act} {w:World},iU N c=true→zh (Den P) τ c QA e b→Conc N w0 X0 e b a w →
 (∀x e b a w,QA x e b→Conc N w0 X0 e b a w→Q x.x a w)→c.wp P Q a w
 |.skip,QA,Q,e,b,a,w,_,hk,hc,hQ=>fM (hQ .normal _ _ _ _ hk hc)
 |.ret,QA,Q,e,b,a,w,_,hk,hc,hQ=>xq (hQ .ret _ _ _ _ hk hc)
 |.exit id,QA,Q,e,b,a,w,_,hk,hc,hQ=>qF (hQ (.exit id) _ _ _ _ hk hc)
 |.region id ops dr,QA,Q,e,b,a,w,ht,hk,hc,hQ=>by
  simp only[zh]at hk;split at hk
  ·exact Vo (QA:=QA) hτ hm ht hc hk (λe b a w h1 h2=>hQ .normal _ _ _ _ h1 h2)
  ·rename_i t i n hp;obtain⟨S,M,h⟩:=hc
   have hl:ld t e=some (.gs i n):=by
    unfold afD at hp;split at hp
    ·split at hp
     ·split at hp
      ·rename_i hl;cases hp;exact hl
      ·cases hp
     ·cases hp
    ·cases hp
   obtain⟨v',f,S',M',h1,h2,h3,h4,_⟩:=rY h (h.env t _ hl) hk;have h5:=h.chg h2 h3;refine Vo (QA:=QA) hτ hm ht ⟨S',M',h5.ms,h5.x0,h5.sz,h5.df,λs x hx=>?_,h5.box⟩ h1 (λe b a w h1 h2=>hQ .normal _ _ _ _ h1 h2)
   by_cases hs:t=s
   ·subst hs;rw[aO]at hx;cases hx;exact .d h4
   ·rw[aX _ _ hs]at hx;exact h5.env s x hx
 |.seq x y,QA,Q,e,b,a,w,ht,hk,hc,hQ=>by
  simp only[iU,eF]at ht;refine aF (eP hτ hm x ht.1 hk hc λz e b a w hz hc=>?_);cases z with
  |normal=>exact bY (eP hτ hm y ht.2 hz hc hQ)
  |ret=>exact Ry (hQ .ret _ _ _ _ hz hc)
  |exit id=>exact qP (hQ (.exit id) _ _ _ _ hz hc)
 |.cond c x y,QA,Q,e,b,a,w,ht,hk,hc,hQ=>by
  simp only[iU,eF]at ht;simp only[zh]at hk;split at hk
  ·rename_i p hp;obtain⟨S,M,h⟩:=hc;refine wp_cond_split ((h.ev hp).v_) (λhp1=>?_) (λhp1=>?_)
   ·subst hp1;exact eP hτ hm x ht.1 (hk.t rfl) ⟨S,M,h⟩ hQ
   ·subst hp1;exact eP hτ hm y ht.2 (hk.f rfl) ⟨S,M,h⟩ hQ
  ·cases hk
 |.block id x,QA,Q,e,b,a,w,ht,hk,hc,hQ=>by
  simp only[iU]at ht;refine fZ (eP hτ hm x ht hk hc λz e b a w hz hc=>?_);cases z with
  |normal=>exact ru (hQ .normal _ _ _ _ hz hc)
  |ret=>exact agu (hQ .ret _ _ _ _ hz hc)
  |exit i =>
   simp only at hz;cases hi:Nat.beq i id with
   |true =>
    rw[hi]at hz;have:=rG hi;subst this;exact Bz (hQ .normal _ _ _ _ hz hc)
   |false =>
    rw[hi]at hz;exact aaO hi (hQ (.exit i) _ _ _ _ hz hc)
 |.loop x,QA,Q,e,b,a,w,ht,hk,hc,hQ=>by
  simp only[iU]at ht;obtain⟨hwl⟩:=hk;refine LW.loop (hwl (λe b=>∀a w,Conc N w0 X0 e b a w→LW P x Q a w) (λe b hF a w hc=>?_) (λe b e' b' hI he hb a w hc=>hI a w (hc.sub he hb)) (λe b t i T s hI h1 h2 h3 h4 h5 a w hc=>hI a w (hc.ghost h1 h2 h3 h4 h5)) a w hc);refine LW.step (eP hτ hm x ht hF hc λz e b a w hz hc=>?_);cases z with
  |normal=>exact bY (hz a w hc)
  |ret=>exact Ry (hQ .ret _ _ _ _ hz hc)
  |exit id=>exact qP (hQ (.exit id) _ _ _ _ hz hc)
 |.rangeFunc _ _ _ _,QA,Q,e,b,a,w,_,hk,hc,hQ=>False.elim hk
 |.scope _,QA,Q,e,b,a,w,_,hk,hc,hQ=>False.elim hk
 |.label _,QA,Q,e,b,a,w,_,hk,hc,hQ=>False.elim hk
 |.goto _,QA,Q,e,b,a,w,_,hk,hc,hQ=>False.elim hk
 |.refuse _,QA,Q,e,b,a,w,_,hk,hc,hQ=>False.elim hk
theorem G9:∀(xs:List AV) (i t:Nat) (v:AV),ld t (D5 i xs)=some v→i≤t∧xs[t-i]?=some v
 |[],_,_,_,h=>by simp[D5,ld]at h
 |u::r,i,t,v,h=>by
  simp only[D5]at h
  by_cases e:i=t
  ·subst e;rw[aO]at h;cases h;simp
  ·rw[aX _ _ e]at h;obtain⟨h1,h2⟩:=G9 r (i+1) t v h;refine⟨by omega, ?_⟩;rw[show t-i=(t-(i+1))+1 by omega];simpa using h2
theorem U6{X:List Nat}{M:MM}{w:World}{t:TypeId}{ti:TI}{ad:Addr}{us:List Value}{cs:List Cell}{v:AV}(ht:gB P t ti=true)(hm:Mem w ad us)(hr:RepL w X us cs)(hv:jq ti cs=some v):
 ∃u,(loadVar t ad).run P w=.ok u w∧RepV w X M u v:=by
 obtain⟨u,hu,hR⟩:=BM (M:=M) (ρ:=λ_ => .pointer (some ad)) (d:=none) (ty:=0) (pos := "") (af:=#[]) (gd:=none) (x:=.tmp 0) ht rfl hm hr hv;refine⟨u, ?_,hR⟩;simp only[execOp,Instr.loadAt,Instr.sureAddr,Sem.run_bind,Sem.run_pure,Result.andThen_ok]at hu;cases hl:(loadVar t ad).run P w with
 |ok u' w1=>rw[hl]at hu;simp at hu;rw[hu.1,hu.2]
 |halt u' w1=>rw[hl]at hu;simp at hu
theorem EL{w:World}{X:List Nat}{M:MM}{u:Value}{ti:TI}{cs:List Cell}{v:AV}(hv:jq ti cs=some v)(h:RepV w X M u v):RepD w X u v:=by
 have hd:(∃x,v=.c x)∨∃l,v=.agg l:=by
  cases ti<;>simp only[jq]at hv<;>first|(simp at hv;done)|(split at hv<;>cases hv<;>first|exact .inl ⟨_,rfl⟩|exact .inr ⟨_,rfl⟩)
 rcases hd with⟨x,rfl⟩|⟨l,rfl⟩
 ·cases h with
  |d h=>exact h
 ·cases h with
  |d h=>exact h
theorem YQ{S:List Bx}{M:MM}{a:Act}{w:World}{e:Env}{b:aN}{r:ResultVar}{k:AV→Prop}(hτ:dN P τ=true)(h:Sta N w0 X0 S M a w e b)(hk:LH τ e b r k):∃u v,k v∧(fG a.tmps r).run P w=.ok u w∧RepD w X0 u v:=by
 unfold LH at hk;cases r with
 |tmp t =>
  simp only at hk;cases ht:ld t e with
  |none=>simp[ht]at hk
  |some v =>
   simp only[ht]at hk;obtain⟨v',f,S',M',h1,h2,h3,h4,h5⟩:=rY h (h.env t v ht) hk;exact⟨_,v',h1,rfl,h4.ext (Ext.drop λx hx=>qC _ hx)⟩
 |cell c t =>
  simp only at hk;split at hk
  ·rename_i ti i ht hc;split at hk
   ·rename_i cs hb;split at hk
    ·rename_i v hv;obtain⟨m,g,hm,hvv,hg,hxe⟩:=(h.env c _ hc).ptr_;obtain⟨m',hm',h1,h2,⟨g',h3⟩,h4⟩:=h.box i _ hb;rw[hm]at hm';cases hm';obtain⟨u,hu,hR⟩:=U6 (M:=M) (aT hτ ht) (Mem.of_row (h.row hm h2 hg)) h4 hv;refine⟨u,v,hk, ?_,(EL hv hR).ext (Ext.drop λx hx=>qC _ hx)⟩;simp only[fG,hxe,asAddr,Sem.run_bind,Sem.run_pure,Result.andThen_ok];rw[hu]
    ·cases hk
   ·cases hk
  ·cases hk
theorem JR{S:List Bx}{M:MM}{a:Act}{w:World}{e:Env}{b:aN}(hτ:dN P τ=true)(h:Sta N w0 X0 S M a w e b):∀{l:List ResultVar} {k:List AV→Prop},P5 τ e b l k→∃us vs,k vs∧(l.mapM (fG a.tmps)).run P w=.ok us w∧us.length=vs.length∧∀(i:Nat) u v,us[i]?=some u→vs[i]?=some v→RepD w X0 u v
 |[],k,hk=>⟨[],[],hk,by simp,rfl,λi u v h=>by simp at h⟩
 |r::l,k,hk=>by
  simp only[P5]at hk;obtain⟨u,v,h1,h2,h3⟩:=YQ hτ h hk;obtain⟨us,vs,q1,q2,q3,q4⟩:=JR hτ h h1;refine⟨u::us,v::vs,q1, ?_,by simp[q3],λi x y hx hy=>?_⟩
  ·rw[List.mapM_cons,Sem.run_bind,h2];simp only[Result.andThen_ok,Sem.run_bind,q2,Sem.run_pure]
  ·cases i with
   |zero=>simp at hx hy;subst hx hy;exact h3
   |succ i=>exact q4 i x y (by simpa using hx) (by simpa using hy)
theorem X5{w:World}{us:List Value}{vs:List AV}(hl:us.length=vs.length)(h:∀(i:Nat) u v,us[i]?=some u→vs[i]?=some v→RepD w X0 u v):RepR w X0 (if h:us.toArray.size=1 then us.toArray[0]else .tuple us.toArray) (aA vs):=by
 match us,vs,hl with
 |[],[],_=>exact .tup rfl λi u v h=>by simp at h
 |[u],[v],_=>exact .d (h 0 u v rfl rfl)
 |u::u'::us,v::v'::vs,hl=>exact .tup hl h
end
section
variable {P:Program} [Wld P] {τ:Tab} {N:Nat} {w0:World} {X0:List Nat}
variable [hwo:WOk P w0]
theorem mQ{N:Nat}{w:World}{X:List Nat}{xs:List AV}{vs:List Value}{a:Act}(hX:∀m∈X,m<w.heap.size)(hl:vs.length=xs.length)(hR:∀(i:Nat) u v,vs[i]?=some u→xs[i]?=some v→RepD w X u v)(hF:Frm N a (zU 0 vs)):Conc N w X (D5 0 xs) [] a w:=by
 refine⟨[],λ_=>none,⟨StG.refl w,Ghs.none_ _ _,λ_ _ h=>(by cases h),λ_ _ _ _ _ h=>(by cases h)⟩,λm hm=>⟨hX m hm,PE m⟩,hF.size,⟨⟨hF.defers,λ_ _ h=>nomatch h⟩,λ_ _ h=>nomatch h⟩,λt v hv=>?_,λi x h=>(by simp[ld]at h)⟩;obtain⟨_,h2⟩:=G9 xs 0 t v hv;simp only[Nat.sub_zero]at h2;have hlt:t<vs.length:=by rw[hl];exact(mG.1 h2).1
 have h3:vs[t]?=some vs[t]:=jg hlt
 have h4:=hF.get t vs[t] (by
  have:∀(vs:List Value) (i t:Nat) u,vs[t]?=some u→lk (i+t) (zU i vs)=some u:=by
   intro vs;induction vs with
   |nil=>intro i t u h;simp at h
   |cons x r ih =>
    intro i t u h;cases t with
    |zero=>simp at h;subst h;simp[zU,lk]
    |succ t =>
     simp only[zU,lk];rw[dP (by omega)];have:=ih (i+1) t u (by simpa using h);rw[show i+1+t=i+(t+1) by omega]at this;exact this
  have:=this vs 0 t _ h3
  rwa [uX]at this)
 rw[h4];exact .d (hR t _ v h3 h2)
theorem qp{f:FuncId}{fn:Func}{c:Code}{xs:List AV}{r:AV}(hτ:dN P τ=true)(hm:P.follows .mixedOrders=true)(hf:P.funcs[f]?=some fn)(hb:fn.body=some c)(hbody:dW P f=true)(ht:iU fn.ntmps c=true)(hle:Nat.ble xs.length fn.ntmps=true)
 (h:zh (Den P) τ c (Xt τ fn r) (D5 0 xs) []) (hn:kS xs=true:=by rfl):Den P f xs r:=by
 refine Den.of ⟨hbody,λw X vs ho hX hl hR=>?_⟩ hn
 haveI:WOk P w:=.of ho
 refine enter hf hb rfl (by rw[hl];exact hle) λa hF=>?_
 have hc:Conc fn.ntmps w X (D5 0 xs) [] a w:=by
  refine⟨[],λ_=>none,⟨StG.refl w,Ghs.none_ _ _,λ_ _ h=>(by cases h),λ_ _ _ _ _ h=>(by cases h)⟩,λm hm=>⟨hX m hm,PE m⟩,hF.size,⟨⟨hF.defers,λ_ _ h=>nomatch h⟩,λ_ _ h=>nomatch h⟩,λt v hv=>?_,λi x h=>(by simp[ld]at h)⟩;obtain⟨_,h2⟩:=G9 xs 0 t v hv;simp only[Nat.sub_zero]at h2;have hlt:t<vs.length:=by rw[hl];exact(mG.1 h2).1
  have h3:vs[t]?=some vs[t]:=jg hlt
  have h4:=hF.get t vs[t] (by
   have:∀(vs:List Value) (i t:Nat) u,vs[t]?=some u→lk (i+t) (zU i vs)=some u:=by
    intro vs;induction vs with
    |nil=>intro i t u h;simp at h
    |cons x r ih =>
     intro i t u h;cases t with
     |zero=>simp at h;subst h;simp[zU,lk]
     |succ t =>
      simp only[zU,lk];rw[dP (by omega)];have:=ih (i+1) t u (by simpa using h);rw[show i+1+t=i+(t+1) by omega]at this;exact this
   have:=this vs 0 t _ h3
   rwa [uX]at this)
  rw[h4];exact .d (hR t _ v h3 h2)
 refine eP hτ hm c ht h hc λx e b a w' hx hc'=>?_
 obtain⟨S,M,hs⟩:=hc'
 have fin:∀us vs,(fn.results.toList.mapM (fG a.tmps)).run P w'=.ok us w'→us.length=vs.length→(∀(i:Nat) u v,us[i]?=some u→vs[i]?=some v→RepD w' X u v)→aA vs=r→a.defers=[]∧∃v,(results fn a.tmps).run P w'=.ok v w'∧BG (λu w1=>RepF w.heap.size w1 X u r∧Below w.heap.size w w1) (.returned v) w':=by
  intro us vs h1 h2 h3 h4;subst h4;refine⟨hs.df.1.1,_, ?_,_,rfl,(X5 h2 h3).f,hs.ms.st.below.b0⟩;rw[jS,Sem.run_bind,qbS];simp[h1]
 cases x with
 |normal =>
  simp only[Xt]at hx;split at hx
  ·rename_i hr;exact fin [] [] (by rw[hr];simp) rfl (λi u v h=>by simp at h) hx.eq
  ·cases hx
 |ret =>
  simp only[Xt]at hx;obtain⟨us,vs,h1,h2,h3,h4⟩:=JR hτ hs hx;exact fin us vs h2 h3 h4 h1.eq
 |exit id=>cases hx
inductive OwnR (P:Program) (w:World) (XX:List Nat) (M:MM) (a:Act) (b':aN):List ResultVar→List (Option AV)→List (Nat × Nat)→Prop where
 |nil:OwnR P w XX M a b' [] [] []
 |no {r l vs G} (t:OwnR P w XX M a b' l vs G):OwnR P w XX M a b' (r::l) (none::vs) G
 |own0 {r l vs G T s} (hr:(fG a.tmps r).run P w=.ok (.slice none 0 0) w) (hs:0<s) (t:OwnR P w XX M a b' l vs G):OwnR P w XX M a b' (r::l) (some (.own T s [])::vs) G
 |own {r l vs G T s es id g m cap} {uss:List (List Value)} {rest:List Value} (hr:(fG a.tmps r).run P w=.ok (.slice (some ⟨g,0,none⟩) es.length cap) w) (hs:0<s) (hg:w.heap[g]?=some (.cells (uss.flatten++rest).toArray T (0,0))) (hS:RepS w XX s uss es) (hc:cap*s=(uss.flatten++rest).length) (hm:cap≤maxLen) (hn:es.length≤cap)
  (hM:M id=some m) (ho:m.own=true) (hmg:m.g=some g) (hd:ld id b'=some .dead) (hid:id ∉ G.map (·.1)) (t:OwnR P w XX M a b' l vs G):OwnR P w XX M a b' (r::l) (some (.own T s es)::vs) ((id,g)::G)
theorem OwnR.at{P:Program}{w:World}{XX:List Nat}{M:MM}{a:Act}{b':aN}{l:List ResultVar}{vs:List (Option AV)}{G:List (Nat×Nat)}(h:OwnR P w XX M a b' l vs G):∀p∈G,∃m,M p.1=some m∧m.own=true∧m.g=some p.2∧ld p.1 b'=some .dead:=by
 induction h with
 |nil=>intro p hp;cases hp
 |no t ih=>exact ih
 |own0 _ _ t ih=>exact ih
 |own hr hs hg hS hc hm hn hM ho hmg hd hid t ih =>
  intro p hp;rcases rF.1 hp with rfl|hp
  ·exact⟨_,hM,ho,hmg,hd⟩
  ·exact ih p hp
theorem OwnR.nd{P:Program}{w:World}{XX:List Nat}{M:MM}{a:Act}{b':aN}{S:List Bx}(hms:MS w0 w S M){l:List ResultVar}{vs:List (Option AV)}{G:List (Nat×Nat)}(h:OwnR P w XX M a b' l vs G):(G.map (·.2)).Nodup:=by
 induction h with
 |nil=>exact List.nodup_nil
 |no t ih=>exact ih
 |own0 _ _ t ih=>exact ih
 |own hr hs hg hS hc hm hn hM ho hmg hd hid t ih =>
  simp only[gY,List.nodup_cons];refine⟨λhm=>?_,ih⟩;obtain⟨p,hp,hpe⟩:=fV.1 hm;obtain⟨m',h1,h2,h3,_⟩:=t.at p hp;have:=hms.inj _ _ _ _ _ hM h1 ho h2 hmg (hpe▸h3);exact hid (fV.2 ⟨p,hp,this.symm⟩)
theorem rV{S:List Bx}{M:MM}{a:Act}{w:World}{e:Env}:∀{l:List ResultVar} {os:List (Option (TypeId×Nat))} {b:aN} {k:List (Option AV)→aN→Prop},Sta N w0 X0 S M a w e b→zq e l os b k →
 ∃vs b' G,k vs b'∧Sta N w0 X0 S M a w e b'∧(∀i,ld i b=some .dead→ld i b'=some .dead)∧OwnR P w (bl S++X0) M a b' l vs G∧∀p∈G,∃T s es,ld p.1 b=some (.grow T s es)
 |[],[],b,k,h,hk=>⟨[],b,[],hk,h,λ_ h=>h,.nil,λp hp=>by cases hp⟩
 |[],_::_,b,k,h,hk=>False.elim hk
 |.tmp _::_,[],b,k,h,hk=>False.elim hk
 |.cell _ _::_,[],b,k,h,hk=>False.elim hk
 |.cell _ _::_,some _::_,b,k,h,hk=>False.elim hk
 |.cell c t::l,none::os,b,k,h,hk=>by
  simp only[zq]at hk;obtain⟨vs,b',G,h1,h2,h3,h4,h5⟩:=rV h hk;exact⟨_,b',G,h1,h2,h3,.no h4,h5⟩
 |.tmp t::l,none::os,b,k,h,hk=>by
  simp only[zq]at hk;obtain⟨vs,b',G,h1,h2,h3,h4,h5⟩:=rV h hk;exact⟨_,b',G,h1,h2,h3,.no h4,h5⟩
 |.tmp t::l,some (T,s)::os,b,k,h,hk=>by
  simp only[zq]at hk;split at hk
  ·rename_i i n ht;split at hk
   ·rename_i T' s' es hb;split at hk
    ·rename_i hT hs;have:=rG hT;subst this;have:=rG hs;subst this;obtain⟨hn,hk⟩:=hk;rw[MQ]at hk;obtain⟨m,hm,q1,q2,q3,q4,q5,q6⟩:=h.box i _ hb
     have hsta:Sta N w0 X0 S M a w e (up i .dead b):=⟨h.ms,h.x0,h.sz,h.df,h.env,λc x hx=>by
      rw[oC]at hx;split at hx
      ·rename_i hc;subst hc;cases hx;exact⟨m,hm,trivial⟩
      ·exact h.box c x hx⟩
     obtain⟨vs,b',G,h1,h2,h3,h4,h5⟩:=rV hsta hk;have hdead:ld i b'=some .dead:=h3 i (by rw[oC,if_pos rfl])
     have hold:∀c,ld c b=some .dead→ld c b'=some .dead:=λc hc=>h3 c (by
      rw[oC];split
      ·rfl
      ·exact hc)
     have h5':∀p∈G,p.1≠i∧∃T s es,ld p.1 b=some (.grow T s es):=λp hp=>by
      obtain⟨T,s,es,h6⟩:=h5 p hp;rw[oC]at h6;split at h6
      ·cases h6
      ·rename_i hc;exact⟨hc,T,s,es,h6⟩
     obtain⟨m',hm',hvv,hh⟩:=(h.env t _ ht).gs_;rw[hm]at hm';cases hm';have hval:=hh (by omega);rcases q6 with⟨g1,rfl,g3⟩|⟨g,uss,rest,g1,g2,g3,g4,g5,g6⟩
     ·refine⟨_,b',G,h1,h2,hold,.own0 ?_ q4.2 h4,λp hp=>(h5' p hp).2⟩;simp only[fG,hval,Sem.run_pure];unfold hdr;rw[g1,g3,q5];rfl
     ·have hrow:=h.row hm q2 g1;refine⟨_,b',(i,g)::G,h1,h2,hold,.own (m:=m) (cap:=m.cap) (uss:=uss) (rest:=rest) ?_ q4.2 (by rw[←q3,←g2];exact hrow) g3 (by rw[g4,g2]) g5 (by omega) hm q2 g1 hdead (λhc=>?_) h4,λp hp=>?_⟩
      ·simp only[fG,hval,Sem.run_pure];unfold hdr;rw[g1,q5];rfl
      ·obtain⟨p,hp,hpe⟩:=fV.1 hc;exact(h5' p hp).1 hpe
      ·rcases rF.1 hp with rfl|hp
       ·exact⟨_,_,_,hb⟩
       ·exact(h5' p hp).2
    ·cases hk
   ·cases hk
  ·rename_i ht;split at hk
   ·rename_i hs;obtain⟨vs,b',G,h1,h2,h3,h4,h5⟩:=rV h hk;refine⟨_,b',G,h1,h2,h3,.own0 ?_ (by simpa[Ew]using hs) h4,h5⟩;simp only[fG,(h.env t _ ht).v_,Sem.run_pure]
   ·cases hk
  ·cases hk
theorem Xq{S:List Bx}{M:MM}{a:Act}{w:World}{e:Env}{b:aN}{r:ResultVar}{k:AV→Prop}{G:List (Nat×Nat)}(hG:∀p∈G,∃m,M p.1=some m∧m.own=true∧m.g=some p.2∧ld p.1 b=some .dead)(hτ:dN P τ=true)(h:Sta N w0 X0 S M a w e b)(hk:LH τ e b r k):
 ∃u v,k v∧(fG a.tmps r).run P w=.ok u w∧RepD w (G.map (·.2)++X0) u v:=by
 have sub:∀{S':List Bx} {M':MM},MS w0 w S' M'→(∀p∈G,M' p.1=M p.1)→∀x∈G.map (·.2)++X0,x∈bl S'++X0:=by
  intro S' M' hms hM x hx;rcases l9.1 hx with hx|hx
  ·obtain⟨p,hp,rfl⟩:=fV.1 hx;obtain⟨m,h1,h2,h3,_⟩:=hG p hp;exact xW _ (fV.2 ⟨_,hms.inS p.1 m ((hM p hp).trans h1) h2 p.2 h3,rfl⟩)
  ·exact qC _ hx
 unfold LH at hk;cases r with
 |tmp t =>
  simp only at hk;cases ht:ld t e with
  |none=>simp[ht]at hk
  |some v =>
   simp only[ht]at hk;obtain⟨v',f,S',M',h1,h2,h3,h4,h5⟩:=rY h (h.env t v ht) hk;refine⟨_,v',h1,rfl,h4.ext (Ext.drop (sub h2 λp hp=>h3.same p.1 λhm=>?_))⟩;obtain⟨q,hq,hqe⟩:=fV.1 hm;obtain⟨m,_,_,_,hd⟩:=hG p hp;rcases(h5 q.1 q.2 hq).1 with⟨T,s,es,h6⟩|⟨cs,h6⟩<;>rw[hqe,hd]at h6<;>cases h6
 |cell c t =>
  simp only at hk;split at hk
  ·rename_i ti i ht hc;split at hk
   ·rename_i cs hb;split at hk
    ·rename_i v hv;obtain⟨m,g,hm,hvv,hg,hxe⟩:=(h.env c _ hc).ptr_;obtain⟨m',hm',h1,h2,⟨g',h3⟩,h4⟩:=h.box i _ hb;rw[hm]at hm';cases hm';obtain⟨u,hu,hR⟩:=U6 (M:=M) (aT hτ ht) (Mem.of_row (h.row hm h2 hg)) h4 hv;refine⟨u,v,hk, ?_,(EL hv hR).ext (Ext.drop (sub h.ms λ_ _=>rfl))⟩;simp only[fG,hxe,asAddr,Sem.run_bind,Sem.run_pure,Result.andThen_ok];rw[hu]
    ·cases hk
   ·cases hk
  ·cases hk
theorem Zj{S:List Bx}{M:MM}{a:Act}{w:World}{e:Env}{b:aN}{G0:List (Nat×Nat)}(hG:∀p∈G0,∃m,M p.1=some m∧m.own=true∧m.g=some p.2∧ld p.1 b=some .dead)(hτ:dN P τ=true)(h:Sta N w0 X0 S M a w e b){l:List ResultVar}{vs:List (Option AV)}{G:List (Nat×Nat)}
 (hO:OwnR P w (bl S++X0) M a b l vs G):∀{k:List AV→Prop},MC τ e b l vs k→∃us vs',k vs'∧(l.mapM (fG a.tmps)).run P w=.ok us w∧RepFs w (G0.map (·.2)++X0) us vs' (G.map (·.2)):=by
 have sub:∀x∈G0.map (·.2)++X0,x∈bl S++X0:=by
  intro x hx;rcases l9.1 hx with hx|hx
  ·obtain⟨p,hp,rfl⟩:=fV.1 hx;obtain⟨m,h1,h2,h3,_⟩:=hG p hp;exact xW _ (fV.2 ⟨_,h.ms.inS p.1 m h1 h2 p.2 h3,rfl⟩)
  ·exact qC _ hx
 have step:∀{r:ResultVar} {l:List ResultVar} {u:Value} {us:List Value},(fG a.tmps r).run P w=.ok u w→(l.mapM (fG a.tmps)).run P w=.ok us w→((r::l).mapM (fG a.tmps)).run P w=.ok (u::us) w:=by
  intro r l u us h1 h2;rw[List.mapM_cons,Sem.run_bind,h1];simp only[Result.andThen_ok,Sem.run_bind,h2,Sem.run_pure]
 induction hO with
 |nil=>intro k hk;exact⟨[],[],hk,by simp,.nil⟩
 |no t ih =>
  rename_i r l vs G;intro k hk
  have hk:LH τ e b r λv=>MC τ e b l vs λus=>k (v::us):=by
   cases r<;>exact hk
  obtain⟨u,v,h1,h2,h3⟩:=Xq hG hτ h hk;obtain⟨us,vs',q1,q2,q3⟩:=ih h1;exact⟨_,_,q1,step h2 q2,.d h3 q3⟩
 |own0 hr hs t ih =>
  intro k hk;simp only[MC]at hk;obtain⟨us,vs',q1,q2,q3⟩:=ih hk;exact⟨_,_,q1,step hr q2,.own0 hs q3⟩
 |own hr hs hg hS hc hm hn hM ho hmg hd hid t ih =>
  intro k hk;simp only[MC]at hk;obtain⟨us,vs',q1,q2,q3⟩:=ih hk;exact⟨_,_,q1,step hr q2,.own hs hg (hS.ext (Ext.drop sub)) hc hm hn q3⟩
theorem aeW{B:Nat}{w:World}{us:List Value}{vs:List AV}{G:List Nat}(h:RepFs w (G++X0) us vs G)(hB:∀g∈G,B≤g)(hnd:G.Nodup):RepF B w X0 (if h:us.toArray.size=1 then us.toArray[0]else .tuple us.toArray) (aA vs):=by
 have hlen:us.length=vs.length:=by
  generalize G++X0=XX at h;clear hB hnd;induction h<;>simp_all
 match us,vs,hlen,h with
 |[],[],_,h=>exact⟨[],[],G,.inl ⟨rfl,rfl⟩,hB,hnd,h⟩
 |[u],[v],_,h =>
  refine⟨[u],[v],G,.inr ⟨rfl,rfl, ?_⟩,hB,hnd,h⟩;cases h with
  |d hd _=>exact hd.notTup
  |own0=>rfl
  |own=>rfl
 |u::u'::us,v::v'::vs,_,h=>exact⟨_,_,G,.inl ⟨rfl,rfl⟩,hB,hnd,h⟩
end
end Go.Sw
namespace Go.Sw
open Go Go.RowKit
section
variable {D:FuncId→List AV→AV→Prop} {τ:Tab}
theorem JI{o:Oper}{e:Env}{b:aN}{k k':AV→aN→Prop}(h:∀v f,k v f→k' v f)(hk:bJ D τ o e b k):bJ D τ o e b k':=by
 obtain⟨v,f,h1,h2⟩:=Jg hk;exact h2 e b k' ⟨λ_ _=>rfl,λ_ _=>rfl⟩ (h v f h1)
theorem Gu{ids:List Nat}{b:aN}{p q:Prop}(h:p→q)(hp:NB ids b p):NB ids b q:=by
 cases ids with
 |nil=>exact h hp
 |cons i r =>
  unfold NB at hp ⊢;simp only at hp ⊢;split at hp
  ·exact h hp
  ·exact hp
theorem EN{O:List Oper}{o:Oper}{e:Env}{b:aN}{k k':Env→AV→aN→Lg→Prop}(h:∀e v f l,k e v f l→k' e v f l)(hk:GN D τ O o e b k):GN D τ O o e b k':=by
 unfold GN at hk ⊢;cases hg:o.guard with
 |none=>simp only[hg]at hk;exact Gu (JI (λv f q=>h _ _ _ _ q)) hk
 |some jw =>
  obtain⟨j,want⟩:=jw;simp only[hg]at hk ⊢;cases hs:oH O j with
  |none=>simp[hs]at hk
  |some t =>
   simp only[hs]at hk ⊢
   have key:∀(q:Bool),(match q == want with
    |true=>NB (pW o) b (bJ D τ o ((t,.bool q)::e) b λv f=>k ((t,.bool q)::e) v f (Lh o ((t,.bool q)::e) b v f))
    |false=>k ((t,.bool q)::e) .bad [] ⟨[],[],[],[]⟩)→(match q == want with
    |true=>NB (pW o) b (bJ D τ o ((t,.bool q)::e) b λv f=>k' ((t,.bool q)::e) v f (Lh o ((t,.bool q)::e) b v f))
    |false=>k' ((t,.bool q)::e) .bad [] ⟨[],[],[],[]⟩):=by
    intro q hq;cases hw:q == want with
    |true=>rw[hw]at hq;exact Gu (JI (λv f q=>h _ _ _ _ q)) hq
    |false=>rw[hw]at hq;exact h _ _ _ _ hq
   split at hk
   ·exact⟨λhp=>key _ (hk.t hp),λhp=>key _ (hk.f hp)⟩
   ·exact h _ _ _ _ hk
   ·cases hk
theorem E8{O:List Oper}{k k':Env→aN→Prop}(h:∀e b,k e b→k' e b):∀{l:List Oper} {e:Env} {b:aN},AU D τ O l e b k→AU D τ O l e b k'
 |[],e,b,hk=>h e b hk
 |o::r,e,b,hk=>by
  simp only[AU,GZ,uf]at hk ⊢;exact EN (λe v f l q=>E8 h q) hk
theorem Ec{O:List Oper}{k k':Env→aN→List Lg→Prop}(h:∀e b l,k e b l→k' e b l):∀{l:List Oper} {e:Env} {b:aN} {lg:List Lg},JQ D τ O l e b lg k→JQ D τ O l e b lg k'
 |[],e,b,lg,hk=>h e b lg hk
 |o::r,e,b,lg,hk=>by
  simp only[JQ,Uh,uf]at hk ⊢;exact EN (λe v f l q=>Ec h q) hk
theorem Fv{dr:Bool}{O:List Oper}{e:Env}{b:aN}{k k':Env→aN→Prop}(h:∀e b,k e b→k' e b)(hk:GU D τ dr O e b k):GU D τ dr O e b k':=by
 cases dr with
 |false=>exact E8 h hk
 |true =>
  simp only[GU,JU]at hk ⊢;exact Gu (Ec λe b l q=>⟨q.ok,h e b q.k⟩) hk
theorem lX:∀(c:Code) {Q Q':Ex→Env→aN→Prop} {e:Env} {b:aN},(∀z e b,Q z e b→Q' z e b)→zh D τ c Q e b→zh D τ c Q' e b
 |.skip,Q,Q',e,b,h,hk=>h _ _ _ hk
 |.ret,Q,Q',e,b,h,hk=>h _ _ _ hk
 |.exit id,Q,Q',e,b,h,hk=>h _ _ _ hk
 |.region id ops dr,Q,Q',e,b,h,hk=>by
  simp only[zh]at hk ⊢;split at hk
  ·exact Fv (h .normal) hk
  ·obtain⟨v,f,h1,h2⟩:=iK hk;exact h2 b _ (λ_ _=>rfl) (Fv (h .normal) h1)
 |.seq x y,Q,Q',e,b,h,hk=>lX x (λz e b q=>by cases z<;>first|exact lX y h q|exact h _ _ _ q) hk
 |.cond c x y,Q,Q',e,b,h,hk=>by
  simp only[zh]at hk ⊢;split at hk
  ·rename_i p hp;refine⟨λh1=>?_,λh1=>?_⟩
   ·exact lX x h (hk.t h1)
   ·exact lX y h (hk.f h1)
  ·cases hk
 |.block id x,Q,Q',e,b,h,hk=>lX x (λz e b q=>by
  cases z with
  |normal=>exact h _ _ _ q
  |ret=>exact h _ _ _ q
  |exit i =>
   simp only at q ⊢;cases hi:Nat.beq i id with
   |true=>rw[hi]at q;exact h _ _ _ q
   |false=>rw[hi]at q;exact h _ _ _ q) hk
 |.loop x,Q,Q',e,b,h,hk=>⟨λI h1 h2 h3=>hk.wl I (λe b hF=>h1 e b (lX x (λz e b q=>by cases z<;>first|exact q|exact h _ _ _ q) hF)) h2 h3⟩
 |.rangeFunc _ _ _ _,Q,Q',e,b,h,hk=>False.elim hk
 |.scope _,Q,Q',e,b,h,hk=>False.elim hk
 |.label _,Q,Q',e,b,h,hk=>False.elim hk
 |.goto _,Q,Q',e,b,h,hk=>False.elim hk
 |.refuse _,Q,Q',e,b,h,hk=>False.elim hk
variable {x:Code} {Q:Ex→Env→aN→Prop} {e:Env} {b:aN}
theorem Loop.unroll(h:zh D τ x (λz e b=>match z with|.normal=>Loop (zh D τ x) Q e b|z=>Q z e b) e b):Loop (zh D τ x) Q e b :=
 ⟨λI h1 h2 h3=>h1 e b (lX x (λz e b q=>by cases z<;>first|exact q.wl I h1 h2 h3|exact q) h)⟩
theorem Loop.ghost(t i T s:Nat)(h:Loop (zh D τ x) Q ((t,.gs i 0)::e) ((i,.grow T s [])::b))(h1:ld t e=some (.c (.v (.slice none 0 0))))(h2:mention [i] e=false)(h3:ld i b=none)(h4:0<s)(h5:gZ [i] b=false:=by rfl):Loop (zh D τ x) Q e b :=
 ⟨λI k1 k2 k3=>k3 e b t i T s (h.wl I k1 k2 k3) h1 h2 h3 h4 h5⟩
structure Again {α:Type} (E:α→Env) (B:α→aN) (p:α→Prop) (μ:α→Nat) (n:Nat) (e:Env) (b:aN) (y:α):Prop where
 e:SubE (E y) e
 b:SubB (B y) b
 p:p y
 lt:μ y<n
theorem Loop.inv{α:Type}(E:α→Env)(B:α→aN)(p:α→Prop)(μ:α→Nat)(x0:α)(he:SubE (E x0) e)(hb:SubB (B x0) b)(hp:p x0)
 (step:∀y,p y→zh D τ x (λz e b=>match z with|.normal=>∃y',Again E B p μ (μ y) e b y'|z=>Q z e b) (E y) (B y)):Loop (zh D τ x) Q e b:=by
 refine⟨λI h1 h2 h3=>h2 _ _ _ _ ?_ he hb⟩
 have key:∀n y,μ y=n→p y→I (E y) (B y):=by
  intro n;induction n using Nat.strongRecOn with
  |_ n ih =>
   intro y hn hy;refine h1 _ _ (lX x (λz e b q=>?_) (step y hy));cases z with
   |normal =>
    obtain⟨y',q1,q2,q3,q4⟩:=q;exact h2 _ _ _ _ (ih (μ y') (by omega) y' rfl q3) q1 q2
   |ret=>exact q
   |exit id=>exact q
 exact key _ x0 rfl hp
end
class DenI (P:Program) [Wld P] (f:FuncId) (xs:List AV) (pre:outParam Prop) (r:outParam AV):Prop where
 den:pre→Den P f xs r
structure Pr (p:Prop):Prop where
 p:p
section
variable {P:Program} [Wld P]
theorem aj{f:FuncId}{xs:List AV}{pre:Prop}{r:AV}{k:AV→Prop}[h:DenI P f xs pre r](hp:Pr pre)(hk:k r):CallP (Den P) f xs k:=⟨r,h.den hp.p,hk⟩
theorem aG{f:FuncId}{xs:List AV}{r:AV}{k:AV→Prop}[h:DenI P f xs True r](hk:k r):CallP (Den P) f xs k:=⟨r,h.den trivial,hk⟩
theorem bI{p k:Prop}(hp:Pr p)(hk:k):Obl p k:=⟨hp.p,hk⟩
theorem aQ{k:Bool→Prop}(h:k true):OnB true k:=⟨λ_=>h,λh=>Bool.noConfusion h⟩
theorem aP{k:Bool→Prop}(h:k false):OnB false k:=⟨λh=>Bool.noConfusion h,λ_=>h⟩
theorem au{p:Prop}[Decidable p]{k:Bool→Prop}(ht:p→k true)(hf:¬p→k false):OnB (decide p) k:=⟨λh=>ht (of_decide_eq_true h),λh=>hf (of_decide_eq_false h)⟩
theorem cZ{p:Prop}[Decidable p]{k:Bool→Prop}(ht:¬p→k true)(hf:p→k false):OnB (!decide p) k:=⟨λh=>ht (by simpa using h),λh=>hf (by simpa using h)⟩
end
@[reducible] def aV(l:List Nat):Cell:=.sl 1 (l.map λx=>[.v (u32 x)])
@[reducible] def zs(n:Int):Cell:=.v (.bool (decide (n<0)))
@[reducible] def zl(n:Int):Cell:=aV (lim n.natAbs)
@[reducible] def Z(n:Int):AV:=.agg [zs n,zl n]
@[reducible] def Zr(neg:Bool)(l:List Nat):AV:=.agg [.v (.bool neg),aV l]
@[reducible] def R(q:Rat):AV:=.agg [zs q.num,zl q.num,zs q.den,zl q.den]
theorem Oj(l:List Nat):(l.map λx=>[u32 x]).flatten=us l:=by
 induction l with
 |nil=>rfl
 |cons x r ih=>simp[us]at ih ⊢;exact ih
theorem Kz{w:World}{X:List Nat}:∀{l:List Nat} {uss:List (List Value)},RepS w X 1 uss (l.map λx=>[.v (u32 x)])→uss=l.map λx=>[u32 x]
 |[],uss,h=>Jk (by simpa using h.len)
 |x::l,uss,h=>by
  cases uss with
  |nil=>have:=h.len;simp at this
  |cons us r =>
   have h0:=h.get 0 us [.v (u32 x)] rfl rfl;obtain⟨u,r',rfl,h1,h2⟩:=h0.inv;have hr':r'=[]:=Jk (by simpa using h2.len);subst hr';cases h1;have ih:=Kz (w:=w) (X:=X) (l:=l) (uss:=r) ⟨by simpa using h.len,λus hu=>h.sz us (by simp[hu]),λi us e a b=>h.get (i+1) us e (by simpa using a) (by simpa using b)⟩;rw[ih];rfl
theorem UL.of_rep{w:World}{X:List Nat}{u:Value}{l:List Nat}(h:RepC w X u (aV l)):UL w X u l:=by
 obtain⟨A,cap,uss,rfl,h1,h2,h3,h4⟩:=RepS.of_sl h;have:=Kz h4;subst this;rw[Oj]at h3;exact⟨A,_,cap,rfl,by simp,h3,by simpa using h1,h2⟩
theorem UL.rep{w:World}{X:List Nat}{u:Value}{l:List Nat}(h:UL w X u l):RepC w X u (aV l):=by
 obtain⟨A,n,c,rfl,rfl,h1,h2,h3⟩:=h
 have hS:RepS w X 1 (l.map λx=>[u32 x]) (l.map λx=>[.v (u32 x)]):=by
  refine⟨by simp,λus hu=>?_,λi us e a b=>?_⟩
  ·obtain⟨x,_,rfl⟩:=fV.1 hu;rfl
  ·rw[zQ]at a b;cases hx:l[i]? with
   |none=>simp[hx]at a
   |some x =>
    simp[hx]at a b;subst a b;exact .cons (.v _ rfl) (.nil _ _)
 have:=hS.sl (A:=A) (cap:=c) (by rw[Oj];exact h1) (by simpa using h2) h3;simpa using this
theorem Raw.of_rep{w:World}{X:List Nat}{u:Value}{neg:Bool}{l:List Nat}(h:RepD w X u (Zr neg l)):afP w X u neg l:=by
 cases h with
 |agg h =>
  obtain⟨u0,r,rfl,h1,h2⟩:=h.inv;obtain⟨u1,r',rfl,h3,h4⟩:=h2.inv;have hr':r'=[]:=Jk (by simpa using h4.len);subst hr';cases h1;obtain⟨A,n,c,rfl,rfl,h5⟩:=UL.of_rep h3;exact⟨_,rfl,A,c,rfl,h5⟩
theorem IntV.of_rep{w:World}{X:List Nat}{u:Value}{n:Int}(h:RepD w X u (Z n)):IntV w X u n:=Raw.of_rep h
theorem gu{l c:Int}{by_:Nat}{k:Nat→Prop}(hp:Pr (0≤l∧l≤c∧c*(by_+1)≤140737488355328))(hk:k l.toNat):MkS l c by_ k:=by
 obtain⟨⟨h1,h2,h3⟩⟩:=hp;refine⟨l.toNat,c.toNat,by omega,by omega,by omega, ?_,hk⟩
 have:((c.toNat * (by_+1):Nat):Int)≤140737488355328:=by
  rw[XM,Int.toNat_of_nonneg (by omega),Int.natCast_add];exact h3
 omega
theorem iG{n:Nat}{lo hi mx:Option Int}{k:Nat→Nat→Prop}(hp:Pr (0≤lo.getD 0∧lo.getD 0≤hi.getD n∧hi.getD n≤mx.getD n∧mx.getD n≤n∧(mx.isSome=true→hi.isSome=true)))(hk:k (lo.getD 0).toNat (hi.getD n).toNat):SlP n lo hi mx k:=by
 obtain⟨⟨h1,h2,h3,h4,h5⟩⟩:=hp;exact⟨_,_,(mx.getD n).toNat,by omega,by omega,by omega,by omega,by omega,by omega,h5,hk⟩
theorem aU{M:Type}(d:M){f:M→List Cell}{l:List M}{i:Int}{k:List Cell→Prop}(hp:Pr (0≤i∧i<l.length))(hk:k (f (l.getD i.toNat d))):Elem (l.map f) i k:=by
 obtain⟨⟨h1,h2⟩⟩:=hp;have hlt:i.toNat<l.length:=by omega
 refine⟨i.toNat,_,by omega, ?_,hk⟩;simp[List.getD,hlt]
theorem bZ{l:List Nat}{i:Int}{k:List Cell→Prop}(hp:Pr (0≤i∧i<l.length))(hk:k [.v (u32 (l.getD i.toNat 0))]):Elem (l.map λx=>[.v (u32 x)]) i k:=aU 0 hp hk
theorem dn{e:List Cell}{es:List (List Cell)}{k:List Cell→Prop}(hk:k e):Elem (e::es) 0 k:=⟨0,e,rfl,rfl,hk⟩
theorem dM{e e':List Cell}{es:List (List Cell)}{k:List Cell→Prop}(hk:k e'):Elem (e::e'::es) 1 k:=⟨1,e',rfl,rfl,hk⟩
section
variable {P:Program} [Wld P] {f:FuncId} {r:AV}
def RR(P:Program)(f:FuncId)(vs:Array Value)(w:World)(X:List Nat)(r:AV):Prop:=Calls P f vs w (BG λu w'=>RepR w' X u r∧Below w.heap.size w w')
theorem RR.den{vs:Array Value}{w:World}{X:List Nat}(h:RR P f vs w X r):Calls P f vs w (BG λu w'=>RepF w.heap.size w' X u r∧Below w.heap.size w w') :=
 h.mono λe w' ⟨u,he,hi,hb⟩=>⟨u,he,hi.f,hb⟩
theorem agn{x y:AV}(hb:dW P f=true)(h:∀(w:World) (X:List Nat) (u v:Value),(∀m∈X,m<w.heap.size)→RepD w X u x→RepD w X v y→RR P f #[u,v] w X r)(hn:kS [x,y]=true:=by rfl):Den P f [x,y] r :=
 Den.of ⟨hb,λw X vs _ hX hl hr=>by
  obtain⟨u,v,rfl⟩:∃u v,vs=[u,v]:=by
   match vs,hl with
   |[u,v],_=>exact⟨u,v,rfl⟩
  exact RR.den (h w X u v hX (hr 0 u x rfl rfl) (hr 1 v y rfl rfl))⟩ hn
theorem RepD.v{w:World}{X:List Nat}{x:Value}{u:Value}(h:RepD w X u (.c (.v x))):u=x:=by
 cases h with
 |c h=>cases h;rfl
theorem RepD.int_{w:World}{X:List Nat}{u:Value}{n:Int}(h:RepD w X u (Z n)):IntV w X u n:=IntV.of_rep h
theorem RepD.ul{w:World}{X:List Nat}{l:List Nat}{u:Value}(h:RepD w X u (.c (aV l))):UL w X u l:=by
 cases h with
 |c h=>exact UL.of_rep h
theorem ahJ{w:World}{X:List Nat}{u v:Value}{x y:AV}(h:RepD w X u x)(k:RepD w X v y):RepR w X (.tuple #[u,v]) (.tup [x,y]) :=
 .tup (us:=[u,v]) rfl λi a b ha hb=>by
  match i,ha,hb with
  |0,ha,hb=>simp at ha hb;subst ha hb;exact h
  |1,ha,hb=>simp at ha hb;subst ha hb;exact k
end
end Go.Sw
namespace Go.Sw
open Go Go.RowKit Go.ChangeShapes Go.WideShapes Go.ChangeAt Go.Joins Go.Deep
inductive TS where
 |int (k:IntKind)
 |bool
 |str
 |slice (e:TS)
 |nil
 |cons (a b:TS)
def TS.n:TS→Nat
 |.int _=>1
 |.bool=>1
 |.str=>1
 |.slice _=>1
 |.nil=>0
 |.cons a b=>a.n+b.n
def TS.one:TS→Bool
 |.nil=>false
 |.cons _ _=>false
 |_=>true
def Fit:TS→List Cell→Prop
 |.int k,cs=>∃n,(Lit.int k n).wf=true∧cs=[.v (.int k n)]
 |.bool,cs=>∃b,cs=[.v (.bool b)]
 |.str,cs=>∃s,s.size≤maxLen∧cs=[.v (.string s)]
 |.slice e,cs=>∃es,es.length≤maxLen∧(∀x∈es,Fit e x)∧cs=[.sl e.n es]
 |.nil,cs=>cs=[]
 |.cons a b,cs=>∃x y,Fit a x∧Fit b y∧cs=x++y
theorem Fit.len:∀{T:TS} {cs:List Cell},Fit T cs→cs.length=T.n
 |.int _,_,⟨_,_,h⟩=>by subst h;rfl
 |.bool,_,⟨_,h⟩=>by subst h;rfl
 |.str,_,⟨_,_,h⟩=>by subst h;rfl
 |.slice _,_,⟨_,_,_,h⟩=>by subst h;rfl
 |.nil,_,h=>by rw[show _=[]from h];rfl
 |.cons a b,_,⟨x,y,h1,h2,h⟩=>by subst h;simp[TS.n,Fit.len h1,Fit.len h2]
def Ob(P:Program):Nat→List Field→Bool
 |_,[]=>true
 |o,f::r=>decide (f.offset=o)&&Ob P (o+P.cellsOf f.type) r
def vG(P:Program)(t:TypeId):Option (List TypeId) :=
 match P.underlying t with
 |some (.struct fs)=>if Ob P 0 fs.toList&&Nat.beq (P.cellsOf t) (fs.toList.map λf=>P.cellsOf f.type).sum then some (fs.toList.map (·.type))else none
 |some (.array n e)=>if Nat.beq (P.cellsOf t) (n*P.cellsOf e)then some (List.replicate n e)else none
 |_=>none
def kF(P:Program):TS→TypeId ⊕ List TypeId→Bool
 |.int k,.inl t=>(match P.underlying t with|some (.int k')=>decide (k'=k)|_=>false)
 |.bool,.inl t=>(match P.underlying t with|some .bool=>true|_=>false)
 |.str,.inl t=>(match P.underlying t with|some .string=>true|_=>false)
 |.slice e,.inl t=>(match P.underlying t with|some (.slice u)=>kF P e (.inl u)&&Nat.beq (P.cellsOf u) e.n&&Nat.blt 0 e.n|_=>false)
 |.nil,.inl t=>(match vG P t with|some []=>true|_=>false)
 |.cons a b,.inl t=>(match vG P t with|some (u::us)=>kF P a (.inl u)&&kF P b (.inr us)|_=>false)
 |.nil,.inr []=>true
 |.cons a b,.inr (u::us)=>kF P a (.inl u)&&kF P b (.inr us)
 |_,_=>false
section
variable {P:Program} {H:Type} {enc:TypeId × Value→H} {w:World}
def JJ(enc:TypeId×Value→H)(P:Program)(w:World):List TypeId→List Value→Prop
 |[],cs=>cs=[]
 |t::ts,cs=>∃a b fuel x,cs=a++b∧DataW.trod enc P w 0 (λ_=>true) true fuel t a=some x∧JJ enc P w ts b
theorem wK{fuel:Nat}:∀(fs:List Field) (o:Nat) (cs:List Value),Ob P o fs=true→cs.length=o+(fs.map λf=>P.cellsOf f.type).sum →
 (∀f∈fs,∃x,DataW.trod enc P w 0 (λ_=>true) true fuel f.type ((cs.drop f.offset).take (P.cellsOf f.type))=some x)→JJ enc P w (fs.map (·.type)) (cs.drop o)
 |[],o,cs,_,hl,_=>by
  simp only[iY,List.sum_nil,Wq]at hl;exact qbQ (by omega)
 |f::r,o,cs,hr,hl,h=>by
  simp only[Ob,eF,decide_eq_true_eq]at hr;obtain⟨rfl,h2⟩:=hr;obtain⟨x,hx⟩:=h f (by simp);refine⟨_,_,fuel,x, ?_,hx,wK r (f.offset+P.cellsOf f.type) cs h2 (by simp only[gY,List.sum_cons]at hl;omega) λg hg=>h g (by simp[hg])⟩;rw[←List.drop_drop,Nj]
theorem Bg{fuel:Nat}{e:TypeId}:∀(n o:Nat) (cs:List Value),cs.length=(o+n)*P.cellsOf e →
 (∀i,i<n→∃x,DataW.trod enc P w 0 (λ_=>true) true fuel e ((cs.drop ((o+i)*P.cellsOf e)).take (P.cellsOf e))=some x)→JJ enc P w (List.replicate n e) (cs.drop (o*P.cellsOf e))
 |0,o,cs,hl,_=>by
  exact qbQ (by rw[hl];simp)
 |n+1,o,cs,hl,h=>by
  obtain⟨x,hx⟩:=h 0 (by omega)
  have:=Bg n (o+1) cs (by rw[hl];congr 1;omega) λi hi=>by
   obtain⟨x,hx⟩:=h (i+1) (by omega);refine⟨x, ?_⟩;rw[show o+1+i=o+(i+1) by omega];exact hx
  refine⟨_,_,fuel,x, ?_,hx,this⟩;rw[Wq,WY,←List.drop_drop,Nj]
theorem Hy{a:Addr}{v:Value}(h:w.cell? a=some v):a.block<w.heap.size:=by
 unfold World.cell? at h;rcases D7 a.block w.heap.size with h1|h1
 ·exact h1
 ·have:w.heap[a.block]?=none:=by simp[h1]
  rw[this]at h;simp at h
theorem cells?_mem{base n:Nat}{a:Addr}{us:List Value}(h:w.cells? base a n=some us):us.length=n∧∀(j:Nat) u,us[j]?=some u→w.cell? (a.add j)=some u:=by
 unfold World.cells? at h;split at h
 ·refine⟨by simpa using mapM_some_length h,λj u hu=>?_⟩;have hj:j<n:=by have:=(mG.1 hu).1;have:=mapM_some_length h;simp at this;omega
  have:=mapM_some_get h j j (by simp[hj]);rw[this,hu]
 ·cases h
theorem Es{α:Type}{Q:Nat→α→Prop}:∀{n:Nat},(∀i,i<n→∃x,Q i x)→∃l:List α,l.length=n∧∀(i:Nat) x,l[i]?=some x→Q i x
 |0,_=>⟨[],rfl,λi x h=>by simp at h⟩
 |n+1,h=>by
  obtain⟨l,h1,h2⟩:=Es (n:=n) (Q:=Q) λi hi=>h i (by omega)
  obtain⟨x,hx⟩:=h n (by omega);refine⟨l++[x],by simp[h1],λi y hy=>?_⟩;rcases D7 i n with hi|hi
  ·rw[Nr (by omega)]at hy;exact h2 i y hy
  ·rw[XO (by omega)]at hy
   have:i=n:=by
    have:=(mG.1 hy).1;simp at this;omega
   subst this;simp[h1]at hy;subst hy;exact hx
theorem Kq{t:TypeId}{ts:List TypeId}{fuel:Nat}{cs:List Value}{x:DataW H×List MemPlace}(hk:vG P t=some ts)(h:DataW.trod enc P w 0 (λ_=>true) true fuel t cs=some x):JJ enc P w ts cs:=by
 unfold vG at hk;split at hk
 ·rename_i fs hu;split at hk
  ·rename_i hc;injection hk with hk
   subst hk;simp only[eF]at hc;obtain⟨xs,n,_,_,h2,h3,h4⟩:=DataW.trod_struct hu h
   have:=wK (enc:=enc) (P:=P) (w:=w) (fuel:=n) fs.toList 0 cs hc.1 (by rw[h2,rG hc.2,uX]) λf hf=>by
    obtain⟨i,hi⟩:=List.getElem?_of_mem hf;have hi':i<fs.size:=by have:=(mG.1 hi).1;simpa using this
    have:=h4 i f (by simpa using hi);rw[this];exact⟨_,jg (by omega)⟩
   simpa using this
  ·cases hk
 ·rename_i n e hu;split at hk
  ·rename_i hc;injection hk with hk
   subst hk;obtain⟨xs,m,_,_,h2,h3,h4⟩:=DataW.trod_array hu h
   have:=Bg (enc:=enc) (P:=P) (w:=w) (fuel:=m) (e:=e) n 0 cs (by rw[h2,rG hc,uX]) λi hi=>by
    have:=h4 i hi;rw[uX,this];exact⟨_,jg (by omega)⟩
   simpa using this
  ·cases hk
 ·cases hk
theorem oU:∀(T:TS),(∀t,kF P T (.inl t)=true→∀fuel cs x,DataW.trod enc P w 0 (λ_=>true) true fuel t cs=some x→∃cl,Fit T cl∧RepL w [] cs cl) ∧
 (∀ts,kF P T (.inr ts)=true→∀cs,JJ enc P w ts cs→∃cl,Fit T cl∧RepL w [] cs cl)
 |.int k=>⟨λt ht fuel cs x h=>(by
  simp only[kF]at ht;split at ht
  ·rename_i k' hu;have:=of_decide_eq_true ht;subst this;obtain⟨n,rfl,h1,h2⟩:=DataW.trod_int hu h
   first
    |exact⟨[.v (.int k' n)],⟨n,h1,rfl⟩,.cons (.v _ rfl) (.nil _ _)⟩|exact⟨[.v (.int k' n)],⟨n,h2,rfl⟩,.cons (.v _ rfl) (.nil _ _)⟩
  ·cases ht),λts ht=>by simp[kF]at ht⟩
 |.bool=>⟨λt ht fuel cs x h=>(by
  simp only[kF]at ht;split at ht
  ·rename_i hu;obtain⟨b,rfl,_⟩:=DataW.trod_bool hu h;exact⟨[.v (.bool b)],⟨b,rfl⟩,.cons (.v _ rfl) (.nil _ _)⟩
  ·cases ht),λts ht=>by simp[kF]at ht⟩
 |.str=>⟨λt ht fuel cs x h=>(by
  simp only[kF]at ht;split at ht
  ·rename_i hu;obtain⟨s,rfl,h1,h2⟩:=DataW.trod_string hu h
   first
    |exact⟨[.v (.string s)],⟨s,h1,rfl⟩,.cons (.v _ rfl) (.nil _ _)⟩|exact⟨[.v (.string s)],⟨s,h2,rfl⟩,.cons (.v _ rfl) (.nil _ _)⟩
  ·cases ht),λts ht=>by simp[kF]at ht⟩
 |.slice e=>⟨λt ht fuel cs x h=>(by
  simp only[kF]at ht;split at ht
  ·rename_i u hu;simp only[eF]at ht;obtain⟨⟨h1,h2⟩,h3⟩:=ht;have h2:=rG h2;have h3:0<e.n:=by simpa[Ew]using h3
   rcases DataW.trod_slice hu h with⟨rfl,_⟩|⟨a,len,cap,elems,rest,n,rfl,rfl,_,_,hl,hc,hlen,hel,_,_⟩
   ·exact⟨[.sl e.n []],⟨[],by simp,λx hx=>by simp at hx,rfl⟩,.cons (.nil _ _ _) (.nil _ _)⟩
   ·have ex:∀i,i<len→∃q:List Value×List Cell,Fit e q.2∧RepL w [] q.1 q.2∧∀(j:Nat) v,q.1[j]?=some v→w.cell? ((a.add (i*e.n)).add j)=some v:=λi hi=>by
     have hE:=hel i hi;have hi':i<elems.length:=by omega
     rw[jg hi',h2]at hE;simp only[Option.bind_eq_some_iff]at hE;obtain⟨us,hus,htr⟩:=hE;obtain⟨cl,f1,f2⟩:=(oU e).1 u h1 _ _ _ htr;exact⟨(us,cl),f1,f2,(cells?_mem hus).2⟩
    obtain⟨l,l1,l2⟩:=Es ex
    have hS:RepS w [] e.n (l.map (·.1)) (l.map (·.2)):=by
     refine⟨by simp,λus hus=>?_,λi us x hi hx=>?_⟩
     ·obtain⟨q,hq,rfl⟩:=fV.1 hus;obtain⟨i,hi⟩:=List.getElem?_of_mem hq;have:=l2 i q hi;rw[this.2.1.len];exact this.1.len
     ·rw[zQ]at hi hx;cases hq:l[i]? with
      |none=>rw[hq]at hi;cases hi
      |some q =>
       rw[hq]at hi hx;simp at hi hx;subst hi hx;exact(l2 i q hq).2.1
    have hCl:Cl w [] (some a) (l.map (·.1)).flatten:=λhne=>by
     have fl:∀(q:Nat) v,(l.map (·.1)).flatten[q]?=some v→w.cell? (a.add q)=some v:=λq v hv=>by
      have hq:q<l.length*e.n:=by
       have:=(mG.1 hv).1
       rwa [dH hS.sz,aZ]at this
      have hi:q/e.n<l.length:=Nat.div_lt_of_lt_mul (by rw[Dy];exact hq);have hj:q%e.n<e.n:=xU _ h3;have e1:q/e.n*e.n+q%e.n=q:=by rw[Dy];exact Nat.div_add_mod _ _
      have:=fP hS.sz (i:=q/e.n) (us:=(l[q/e.n]).1) (by rw[zQ,jg hi];rfl) (q%e.n) hj;rw[e1,hv]at this;have:=(l2 _ _ (jg hi)).2.2 _ _ this.symm
      rwa [add_add',e1]at this
     have hpos:0<(l.map (·.1)).flatten.length:=List.length_pos_iff.2 hne;have h0:=fl 0 _ (jg hpos);have hb:=Hy h0;rw[block_add]at hb;exact⟨a,rfl,hb,by simp,fl⟩
    refine⟨[.sl e.n (l.map (·.2))],⟨_,by simp;omega,λx hx=>?_,rfl⟩,.cons ?_ (.nil _ _)⟩
    ·obtain⟨q,hq,rfl⟩:=fV.1 hx;obtain⟨i,hi⟩:=List.getElem?_of_mem hq;exact(l2 i q hi).1
    ·have:=hS.sl hCl (cap:=cap) (by simp;omega) hc;simp only[aZ,l1]at this;exact this
  ·cases ht),λts ht=>by simp[kF]at ht⟩
 |.nil=>⟨λt ht fuel cs x h=>(by
  simp only[kF]at ht
  have hk:vG P t=some []:=by
   split at ht
   ·assumption
   ·cases ht
  have:=Kq hk h;rw[show cs=[]from this]
  exact⟨[],rfl,.nil _ _⟩),λts ht cs h=>by
  cases ts with
  |nil=>rw[show cs=[]from h];exact⟨[],rfl,.nil _ _⟩
  |cons _ _=>simp[kF]at ht⟩
 |.cons a b=>⟨λt ht fuel cs x h=>(by
  simp only[kF]at ht;split at ht
  ·rename_i u us hk;simp only[eF]at ht;obtain⟨c1,c2,fuel',x',rfl,h1,h2⟩:=Kq hk h;obtain⟨l1,f1,r1⟩:=(oU a).1 u ht.1 _ _ _ h1;obtain⟨l2,f2,r2⟩:=(oU b).2 us ht.2 _ h2;exact⟨_,⟨l1,l2,f1,f2,rfl⟩,r1.append r2⟩
  ·cases ht),λts ht cs h=>by
  cases ts with
  |nil=>simp[kF]at ht
  |cons u us =>
   simp only[kF,eF]at ht;obtain⟨c1,c2,fuel',x',rfl,h1,h2⟩:=h;obtain⟨l1,f1,r1⟩:=(oU a).1 u ht.1 _ _ _ h1;obtain⟨l2,f2,r2⟩:=(oU b).2 us ht.2 _ h2
   exact⟨_,⟨l1,l2,f1,f2,rfl⟩,r1.append r2⟩⟩
theorem Nq{T:TS}{t:TypeId}{r:Reach}{b0:Nat}{v:Value}(h1:T.one=true)(ht:kF P T (.inl t)=true)(hv:Value.okWide P w r b0 t v):v.cells = #[v]:=by
 cases T with
 |nil=>cases h1
 |cons _ _=>cases h1
 |int k =>
  simp only[kF]at ht;split at ht
  ·rename_i k' hu;simp only[Value.okWide,hu,Cell.okWide,Cell.ok]at hv;cases v<;>first|rfl|exact False.elim hv
  ·cases ht
 |bool =>
  simp only[kF]at ht;split at ht
  ·rename_i hu;simp only[Value.okWide,hu,Cell.okWide,Cell.ok]at hv;cases v<;>first|rfl|exact False.elim hv
  ·cases ht
 |str =>
  simp only[kF]at ht;split at ht
  ·rename_i hu;simp only[Value.okWide,hu,Cell.okWide,Cell.ok]at hv;cases v<;>first|rfl|exact False.elim hv
  ·cases ht
 |slice e =>
  simp only[kF]at ht;split at ht
  ·rename_i u hu;simp only[Value.okWide,hu,Cell.okWide,Cell.ok]at hv;cases v<;>first|rfl|exact False.elim hv
  ·cases ht
def ZF(T:TS)(x:AV):Prop:=match T.one with
 |true=>∃c,Fit T [c]∧x=.c c
 |false=>∃cl,Fit T cl∧x=.agg cl
theorem WZ{T:TS}{t:TypeId}{r:Reach}{b0:Nat}{v:Value}{d:DataW H}{p:List MemPlace}(ht:kF P T (.inl t)=true)(hv:Value.okWide P w r b0 t v)(h:DataW.Trod enc P w 0 (λ_=>true) true t v d p):∃x,ZF T x∧RepD w [] v x:=by
 obtain⟨fuel,h⟩:=h;obtain⟨cl,h1,h2⟩:=(oU T).1 t ht _ _ _ h;cases h3:T.one with
 |true =>
  have hc:=Nq h3 ht hv;have hl:=h1.len;have hl1:T.n=1:=by cases T<;>first|rfl|cases h3
  rw[hc]at h2
  match cl,hl,h2 with
  |[c],_,h2 =>
   obtain⟨u,r',he,h5,_⟩:=h2.inv;simp at he;obtain⟨rfl,_⟩:=he;exact⟨.c c,by unfold ZF;rw[h3];exact⟨c,h1,rfl⟩,.c h5⟩
  |[],hl,_=>rw[hl1]at hl;simp at hl
  |_::_::_,hl,_=>rw[hl1]at hl;simp at hl
 |false =>
  have ha:∃cs,v=.agg cs:=by
   have hk:(vG P t).isSome=true:=by
    cases T with
    |nil=>simp only[kF]at ht;split at ht;rename_i hk;rw[hk];rfl;cases ht
    |cons a b=>simp only[kF]at ht;split at ht;rename_i hk;rw[hk];rfl;cases ht
    |int _=>cases h3
    |bool=>cases h3
    |str=>cases h3
    |slice _=>cases h3
   unfold vG at hk;unfold Value.okWide at hv;split at hk
   ·rename_i hu;rw[hu]at hv;exact⟨_,hv.choose_spec.1⟩
   ·rename_i hu;rw[hu]at hv;exact⟨_,hv.choose_spec.1⟩
   ·cases hk
  obtain⟨cs,rfl⟩:=ha;refine⟨.agg cl,by unfold ZF;rw[h3];exact⟨cl,h1,rfl⟩, ?_⟩;have:RepD w [] (.agg cs.toList.toArray) (.agg cl):=.agg h2;simpa using this
def OI:List TS→List AV→Prop
 |[],xs=>xs=[]
 |T::Ts,xs=>∃x r,ZF T x∧OI Ts r∧xs=x::r
def Eb(P:Program):List TS→List TypeId→Bool
 |[],[]=>true
 |T::Ts,t::ts=>kF P T (.inl t)&&Eb P Ts ts
 |_,_=>false
theorem Ej{r:Reach}{b0:Nat}:∀{Ts:List TS} {ts:List TypeId} {vs:List Value} {ds:List (DataW H)} {p:List MemPlace},Eb P Ts ts=true→(∀(j:Nat) t v,ts[j]?=some t→vs[j]?=some v→Value.okWide P w r b0 t v) →
 DataW.TrodAll enc P w 0 (λ_=>true) true ts vs ds p→∃xs,OI Ts xs∧vs.length=xs.length∧∀(i:Nat) u v,vs[i]?=some u→xs[i]?=some v→RepD w [] u v
 |[],[],vs,ds,p,_,_,h=>by
  match vs,ds,h with
  |[],[],_=>exact⟨[],rfl,rfl,λi u v h=>by simp at h⟩
 |T::Ts,t::ts,vs,ds,p,hk,hv,h=>by
  simp only[Eb,eF]at hk
  match vs,ds,h with
  |v::vs,d::ds,⟨p1,p2,h1,h2,_⟩ =>
   obtain⟨x,f1,r1⟩:=WZ hk.1 (hv 0 t v rfl rfl) h1;obtain⟨xs,f2,l2,r2⟩:=Ej hk.2 (λj t v a b=>hv (j+1) t v (by simpa using a) (by simpa using b)) h2
   exact⟨x::xs,⟨x,xs,f1,f2,rfl⟩,by simp[l2],λi u y a b=>by
    cases i with
    |zero=>simp at a b;subst a b;exact r1
    |succ i=>exact r2 i u y (by simpa using a) (by simpa using b)⟩
 |[],_::_,_,_,_,hk,_,_=>by simp[Eb]at hk
 |_::_,[],_,_,_,hk,_,_=>by simp[Eb]at hk
theorem Sm{w:World}{X:List Nat}{u:Value}{b:Bool}(h:RepR w X u (.bool b)):u=.bool b:=by
 generalize hv:AV.bool b=v at h;cases h with
 |d h =>
  cases h with
  |c h =>
   injection hv with hv
   subst hv;generalize hc:Cell.v (.bool b)=c at h;cases h with
   |v _ _=>injection hc with hc;exact hc.symm
   |sl=>cases hc
   |p=>cases hc
   |fn=>cases hc
  |agg h=>cases hv
 |tup _ _=>cases hv
def readAll(P:Program)(ts:List TypeId):Bool:=ts.all λt=>P.readableRec t&&Nat.blt t P.types.size
theorem uU{W W':World}(hl:laidOutB P=true)(hb:Below W.heap.size W W'):∀{ts:List TypeId} {vs:List Value} {ds:List (DataW H)} {p:List MemPlace},readAll P ts=true→(∀x∈p,x.block<W.heap.size)→DataW.TrodAll enc P W 0 (λ_=>true) true ts vs ds p →
 DataW.TrodAll enc P W' 0 (λb=>decide (b<W.heap.size)) true ts vs ds p
 |[],[],[],p,_,_,h=>h
 |t::ts,v::vs,d::ds,p,hr,hlt,h=>by
  obtain⟨p1,p2,h1,h2,rfl⟩:=h;simp only[readAll,List.all_cons,eF]at hr;exact⟨p1,p2,Below.trod hl hr.1.1 (by simpa[Ew]using hr.1.2) h1 hb (λx hx=>hlt x (l9.2 (.inl hx))),uU hl hb (ts:=ts) hr.2 (λx hx=>hlt x (l9.2 (.inr hx))) h2,rfl⟩
 |[],_::_,_,_,_,_,h=>h.elim
 |[],[],_::_,_,_,_,h=>h.elim
 |_::_,[],_,_,_,_,h=>h.elim
 |_::_,_::_,[],_,_,_,h=>h.elim
theorem Yh[Wld P]{f:FuncId}{Ts:List TS}{ts:List TypeId}{args:Array Value}{ds:List (DataW H)}{p:List MemPlace}{r:Reach}{b0:Nat}(hk:Eb P Ts ts=true)(hden:∀xs,OI Ts xs→Den P f xs (.bool true))
 (hv:∀(j:Nat) t v,ts[j]?=some t→args.toList[j]?=some v→Value.okWide P w r b0 t v) (h:DataW.TrodAll enc P w 0 (λ_=>true) true ts args.toList ds p) (ho:Wld.ok P w:=by trivial):Calls P f args w (BG λu w'=>u=.bool true∧Below w.heap.size w w'):=by
 obtain⟨xs,h1,h2,h3⟩:=Ej hk hv h;have:=((hden xs h1).old (pI h2 h3)).2 w [] args.toList ho (by simp) h2 h3;simp only[Array.toArray_toList]at this;exact this.mono λe w' ⟨u,he,hr,hb⟩=>⟨u,he,Sm hr.r,hb⟩
theorem aeE{k:IntKind}{n:Int}(hk:k=.u8∨k=.u16∨k=.u32∨k=.u64)(h:(Lit.int k n).wf=true):∃m:Nat,n=m∧m<2^k.bits:=by
 refine⟨n.toNat, ?_⟩;simp only[Lit.wf,eF,decide_eq_true_eq]at h;rcases hk with rfl|rfl|rfl|rfl<;>simp[IntKind.min,IntKind.max,IntKind.signed,IntKind.bits]at h ⊢<;>omega
theorem aeA{n:Int}(h:(Lit.int .i64 n).wf=true):-9223372036854775808≤n∧n≤9223372036854775807:=by
 simp only[Lit.wf,eF,decide_eq_true_eq]at h;simp[IntKind.min,IntKind.max,IntKind.signed,IntKind.bits]at h;omega
theorem EU{cs:List Cell}(h:Fit (.slice (.int .u32)) cs):∃l:List Nat,l.length≤maxLen∧(∀x∈l,x<4294967296)∧cs=[aV l]:=by
 obtain⟨es,h1,h2,rfl⟩:=h
 have:∀es:List (List Cell),(∀x∈es,Fit (.int .u32) x)→∃l:List Nat,l.length=es.length∧(∀x∈l,x<4294967296)∧es=l.map λx=>[Cell.v (.int .u32 (x:Nat))]:=by
  intro es;induction es with
  |nil=>exactλ_=>⟨[],rfl,λx h=>by simp at h,rfl⟩
  |cons e r ih =>
   intro h;obtain⟨l,l1,l2,l3⟩:=ih λx hx=>h x (by simp[hx])
   obtain⟨n,hn,rfl⟩:=h e (by simp);obtain⟨m,rfl,hm⟩:=aeE (.inr (.inr (.inl rfl))) hn;exact⟨m::l,by simp[l1],λx hx=>by rcases rF.1 hx with rfl|hx;exact hm;exact l2 x hx,by simp[l3]⟩
 obtain⟨l,l1,l2,l3⟩:=this es h2;exact⟨l,by omega,l2,by rw[l3];rfl⟩
theorem zx{W:World}{sp:Nat→Bool}:∀{ts:List TypeId} {vs:List Value} {ds:List (DataW H)} {p:List MemPlace},DataW.TrodAll enc P W 0 sp true ts vs ds p→ds.length=ts.length
 |[],[],[],_,_=>rfl
 |_::ts,_::vs,_::ds,_,⟨_,_,_,h,_⟩=>by simp[zx h]
 |[],_::_,_,_,h=>h.elim
 |[],[],_::_,_,h=>h.elim
 |_::_,[],_,_,h=>h.elim
 |_::_,_::_,[],_,h=>h.elim
theorem len2{α:Type}{l:List α}(h:l.length=2):∃a b,l=[a,b]:=by
 match l,h with
 |[a,b],_=>exact⟨a,b,rfl⟩
end
end Go.Sw
namespace Go.Proofs.YtmniihkenijjpaaGreatDoor
open Go
theorem Tryz.own:ownKnob Tryz.prog.godebug=none:=by kernel_rfl
theorem Tryz.laidOut:laidOutB Tryz.prog=true:=by kernel_rfl
end Go.Proofs.YtmniihkenijjpaaGreatDoor
namespace Go.Proofs.YtmniihkenijjpaaGreatDoor
open Go Go.RowKit Go.Sw
set_option maxRecDepth 100000
instance WC:Wld Tryz.prog:=Wld.any _
def tab:Tab:=[(30,.row 4 [(0,2,true),(2,2,true)] [.v (.bool false),.sl 1 [],.v (.bool false),.sl 1 []]),
 (28,.row 2 [(0,1,false),(1,1,false)] [.v (.bool false),.sl 1 []]),
 (26,.slice 154 1 4 [.v (.int .u32 0)]),
 (45,.row 8 [(0,4,true),(4,4,true)] [.v (.bool false),.sl 1 [],.v (.bool false),.sl 1 [],.v (.bool false),.sl 1 [],.v (.bool false),.sl 1 []]),
 (55,.row 7 [(0,1,false),(1,1,false),(2,1,false),(3,4,true)] [.v (.int .i64 0),.v (.string ByteArray.empty),.sl 8 [],.v (.bool false),.sl 1 [],.v (.bool false),.sl 1 []]),
 (161,.row 20 [(0,4,true),(4,4,true),(8,4,true),(12,4,true),(16,4,true)] [.v (.bool false),.sl 1 [],.v (.bool false),.sl 1 [],.v (.bool false),.sl 1 [],.v (.bool false),.sl 1 [],.v (.bool false),.sl 1 [],.v (.bool false),.sl 1 [],.v (.bool false),.sl 1 [],.v (.bool false),.sl 1 [],.v (.bool false),.sl 1 [],.v (.bool false),.sl 1 []]),
 (25,.row 2 [(0,1,false),(1,1,false)] [.sl 3 [],.sl 7 []]),
 (2,.int .i64),
 (53,.slice 45 8 128 [.v (.bool false),.sl 1 [],.v (.bool false),.sl 1 [],.v (.bool false),.sl 1 [],.v (.bool false),.sl 1 []]),
 (260,.row 12 [(0,4,true),(4,4,true),(8,4,true)] [.v (.bool false),.sl 1 [],.v (.bool false),.sl 1 [],.v (.bool false),.sl 1 [],.v (.bool false),.sl 1 [],.v (.bool false),.sl 1 [],.v (.bool false),.sl 1 []]),
 (292,.row 2 [(0,1,false),(1,1,false)] [.v (.int .i64 0),.v (.int .i64 0)]),
 (154,.int .u32),
 (209,.slice 2 1 8 [.v (.int .i64 0)]),
 (23,.slice 55 7 112 [.v (.int .i64 0),.v (.string ByteArray.empty),.sl 8 [],.v (.bool false),.sl 1 [],.v (.bool false),.sl 1 []]),
 (3,.int .i64),
 (9,.str),
 (163,.row 66 [(0,1,false),(1,12,true),(13,12,true),(25,1,false),(26,20,true),(46,20,true)] [.v (.bool false),.v (.bool false),.sl 1 [],.v (.bool false),.sl 1 [],.v (.bool false),.sl 1 [],.v (.bool false),.sl 1 [],.v (.bool false),.sl 1 [],.v (.bool false),.sl 1 [],.v (.bool false),.sl 1 [],.v (.bool false),.sl 1 [],.v (.bool false),.sl 1 [],.v (.bool false),.sl 1 [],.v (.bool false),.sl 1 [],.v (.bool false),.sl 1 [],.v (.bool false),.v (.bool false),.sl 1 [],.v (.bool false),.sl 1 [],.v (.bool false),.sl 1 [],.v (.bool false),.sl 1 [],.v (.bool false),.sl 1 [],.v (.bool false),.sl 1 [],.v (.bool false),.sl 1 [],.v (.bool false),.sl 1 [],.v (.bool false),.sl 1 [],.v (.bool false),.sl 1 [],.v (.bool false),.sl 1 [],.v (.bool false),.sl 1 [],.v (.bool false),.sl 1 [],.v (.bool false),.sl 1 [],.v (.bool false),.sl 1 [],.v (.bool false),.sl 1 [],.v (.bool false),.sl 1 [],.v (.bool false),.sl 1 [],.v (.bool false),.sl 1 [],.v (.bool false),.sl 1 []]),
 (4,.bool),
 (159,.row 12 [(0,4,true),(4,4,true),(8,4,true)] [.v (.bool false),.sl 1 [],.v (.bool false),.sl 1 [],.v (.bool false),.sl 1 [],.v (.bool false),.sl 1 [],.v (.bool false),.sl 1 [],.v (.bool false),.sl 1 []]),
 (304,.row 24 [(0,4,true),(4,4,true),(8,4,true),(12,4,true),(16,4,true),(20,4,true)] [.v (.bool false),.sl 1 [],.v (.bool false),.sl 1 [],.v (.bool false),.sl 1 [],.v (.bool false),.sl 1 [],.v (.bool false),.sl 1 [],.v (.bool false),.sl 1 [],.v (.bool false),.sl 1 [],.v (.bool false),.sl 1 [],.v (.bool false),.sl 1 [],.v (.bool false),.sl 1 [],.v (.bool false),.sl 1 [],.v (.bool false),.sl 1 []]),
 (152,.int .u64),
 (22,.slice 89 3 32 [.v (.string ByteArray.empty),.v (.int .i64 0),.v (.int .i64 0)]),
 (147,.row 4 [(0,1,false),(1,1,false),(2,1,false),(3,1,false)] [.v (.int .i64 0),.v (.int .i64 0),.v (.int .i64 0),.v (.bool false)]),
 (47,.row 19 [(0,1,false),(1,1,false),(2,1,false),(3,8,true),(11,8,true)] [.v (.int .i64 0),.v (.int .i64 0),.v (.int .i64 0),.v (.bool false),.sl 1 [],.v (.bool false),.sl 1 [],.v (.bool false),.sl 1 [],.v (.bool false),.sl 1 [],.v (.bool false),.sl 1 [],.v (.bool false),.sl 1 [],.v (.bool false),.sl 1 [],.v (.bool false),.sl 1 []]),
 (270,.slice 5 1 1 [.v (.int .u8 0)]),
 (33,.slice 47 19 280 [.v (.int .i64 0),.v (.int .i64 0),.v (.int .i64 0),.v (.bool false),.sl 1 [],.v (.bool false),.sl 1 [],.v (.bool false),.sl 1 [],.v (.bool false),.sl 1 [],.v (.bool false),.sl 1 [],.v (.bool false),.sl 1 [],.v (.bool false),.sl 1 [],.v (.bool false),.sl 1 []]),
 (113,.row 2 [(0,1,false),(1,1,false)] [.v (.int .i64 0),.v (.int .i64 0)]),
 (157,.row 12 [(0,4,true),(4,4,true),(8,4,true)] [.v (.bool false),.sl 1 [],.v (.bool false),.sl 1 [],.v (.bool false),.sl 1 [],.v (.bool false),.sl 1 [],.v (.bool false),.sl 1 [],.v (.bool false),.sl 1 []]),
 (60,.slice 3 1 8 [.v (.int .i64 0)]),
 (5,.int .u8),
 (86,.row 8 [(0,7,true),(7,1,false)] [.v (.int .i64 0),.v (.string ByteArray.empty),.sl 8 [],.v (.bool false),.sl 1 [],.v (.bool false),.sl 1 [],.v (.int .i64 0)]),
 (89,.row 3 [(0,1,false),(1,1,false),(2,1,false)] [.v (.string ByteArray.empty),.v (.int .i64 0),.v (.int .i64 0)]),
 (79,.slice 86 8 120 [.v (.int .i64 0),.v (.string ByteArray.empty),.sl 8 [],.v (.bool false),.sl 1 [],.v (.bool false),.sl 1 [],.v (.int .i64 0)]),
 (96,.row 19 [(0,1,false),(1,1,false),(2,1,false),(3,8,true),(11,8,true)] [.v (.int .i64 0),.v (.int .i64 0),.v (.int .i64 0),.v (.bool false),.sl 1 [],.v (.bool false),.sl 1 [],.v (.bool false),.sl 1 [],.v (.bool false),.sl 1 [],.v (.bool false),.sl 1 [],.v (.bool false),.sl 1 [],.v (.bool false),.sl 1 [],.v (.bool false),.sl 1 []]),
 (38,.slice 96 19 280 [.v (.int .i64 0),.v (.int .i64 0),.v (.int .i64 0),.v (.bool false),.sl 1 [],.v (.bool false),.sl 1 [],.v (.bool false),.sl 1 [],.v (.bool false),.sl 1 [],.v (.bool false),.sl 1 [],.v (.bool false),.sl 1 [],.v (.bool false),.sl 1 [],.v (.bool false),.sl 1 []]),
 (114,.slice 113 2 16 [.v (.int .i64 0),.v (.int .i64 0)]),
 (83,.slice 4 1 1 [.v (.bool false)]),
 (67,.slice 68 2 16 [.v (.int .i64 0),.v (.int .i64 0)]),
 (228,.int .u64),
 (119,.row 2 [(0,1,false),(1,1,false)] [.v (.int .i64 0),.v (.int .i64 0)]),
 (115,.slice 147 4 32 [.v (.int .i64 0),.v (.int .i64 0),.v (.int .i64 0),.v (.bool false)]),
 (285,.int .u64),
 (120,.slice 119 2 16 [.v (.int .i64 0),.v (.int .i64 0)]),
 (91,.slice 95 9 144 [.v (.string ByteArray.empty),.v (.bool false),.sl 1 [],.v (.bool false),.sl 1 [],.v (.bool false),.sl 1 [],.v (.bool false),.sl 1 []]),
 (68,.arr 2 1 true [.v (.int .i64 0),.v (.int .i64 0)]),
 (354,.arr 65 1 true [.v (.int .u8 0),.v (.int .u8 0),.v (.int .u8 0),.v (.int .u8 0),.v (.int .u8 0),.v (.int .u8 0),.v (.int .u8 0),.v (.int .u8 0),.v (.int .u8 0),.v (.int .u8 0),.v (.int .u8 0),.v (.int .u8 0),.v (.int .u8 0),.v (.int .u8 0),.v (.int .u8 0),.v (.int .u8 0),.v (.int .u8 0),.v (.int .u8 0),.v (.int .u8 0),.v (.int .u8 0),.v (.int .u8 0),.v (.int .u8 0),.v (.int .u8 0),.v (.int .u8 0),.v (.int .u8 0),.v (.int .u8 0),.v (.int .u8 0),.v (.int .u8 0),.v (.int .u8 0),.v (.int .u8 0),.v (.int .u8 0),.v (.int .u8 0),.v (.int .u8 0),.v (.int .u8 0),.v (.int .u8 0),.v (.int .u8 0),.v (.int .u8 0),.v (.int .u8 0),.v (.int .u8 0),.v (.int .u8 0),.v (.int .u8 0),.v (.int .u8 0),.v (.int .u8 0),.v (.int .u8 0),.v (.int .u8 0),.v (.int .u8 0),.v (.int .u8 0),.v (.int .u8 0),.v (.int .u8 0),.v (.int .u8 0),.v (.int .u8 0),.v (.int .u8 0),.v (.int .u8 0),.v (.int .u8 0),.v (.int .u8 0),.v (.int .u8 0),.v (.int .u8 0),.v (.int .u8 0),.v (.int .u8 0),.v (.int .u8 0),.v (.int .u8 0),.v (.int .u8 0),.v (.int .u8 0),.v (.int .u8 0),.v (.int .u8 0)]),
 (349,.row 1 [(0,1,false)] [.v (.bool false)]),
 (95,.row 9 [(0,1,false),(1,8,true)] [.v (.string ByteArray.empty),.v (.bool false),.sl 1 [],.v (.bool false),.sl 1 [],.v (.bool false),.sl 1 [],.v (.bool false),.sl 1 []]),
 (171,.row 2 [(0,1,false),(1,1,false)] [.v (.string ByteArray.empty),.v (.int .i64 0)]),
 (136,.slice 163 66 1040 [.v (.bool false),.v (.bool false),.sl 1 [],.v (.bool false),.sl 1 [],.v (.bool false),.sl 1 [],.v (.bool false),.sl 1 [],.v (.bool false),.sl 1 [],.v (.bool false),.sl 1 [],.v (.bool false),.sl 1 [],.v (.bool false),.sl 1 [],.v (.bool false),.sl 1 [],.v (.bool false),.sl 1 [],.v (.bool false),.sl 1 [],.v (.bool false),.sl 1 [],.v (.bool false),.v (.bool false),.sl 1 [],.v (.bool false),.sl 1 [],.v (.bool false),.sl 1 [],.v (.bool false),.sl 1 [],.v (.bool false),.sl 1 [],.v (.bool false),.sl 1 [],.v (.bool false),.sl 1 [],.v (.bool false),.sl 1 [],.v (.bool false),.sl 1 [],.v (.bool false),.sl 1 [],.v (.bool false),.sl 1 [],.v (.bool false),.sl 1 [],.v (.bool false),.sl 1 [],.v (.bool false),.sl 1 [],.v (.bool false),.sl 1 [],.v (.bool false),.sl 1 [],.v (.bool false),.sl 1 [],.v (.bool false),.sl 1 [],.v (.bool false),.sl 1 [],.v (.bool false),.sl 1 []]),
 (172,.arr 4 2 false [.v (.string ByteArray.empty),.v (.int .i64 0),.v (.string ByteArray.empty),.v (.int .i64 0),.v (.string ByteArray.empty),.v (.int .i64 0),.v (.string ByteArray.empty),.v (.int .i64 0)]),
 (340,.arr 24 1 true [.v (.int .u8 0),.v (.int .u8 0),.v (.int .u8 0),.v (.int .u8 0),.v (.int .u8 0),.v (.int .u8 0),.v (.int .u8 0),.v (.int .u8 0),.v (.int .u8 0),.v (.int .u8 0),.v (.int .u8 0),.v (.int .u8 0),.v (.int .u8 0),.v (.int .u8 0),.v (.int .u8 0),.v (.int .u8 0),.v (.int .u8 0),.v (.int .u8 0),.v (.int .u8 0),.v (.int .u8 0),.v (.int .u8 0),.v (.int .u8 0),.v (.int .u8 0),.v (.int .u8 0)]),
 (353,.arr 20 1 true [.v (.int .u64 0),.v (.int .u64 0),.v (.int .u64 0),.v (.int .u64 0),.v (.int .u64 0),.v (.int .u64 0),.v (.int .u64 0),.v (.int .u64 0),.v (.int .u64 0),.v (.int .u64 0),.v (.int .u64 0),.v (.int .u64 0),.v (.int .u64 0),.v (.int .u64 0),.v (.int .u64 0),.v (.int .u64 0),.v (.int .u64 0),.v (.int .u64 0),.v (.int .u64 0),.v (.int .u64 0)]),
 (355,.arr 32 1 true [.v (.int .u8 0),.v (.int .u8 0),.v (.int .u8 0),.v (.int .u8 0),.v (.int .u8 0),.v (.int .u8 0),.v (.int .u8 0),.v (.int .u8 0),.v (.int .u8 0),.v (.int .u8 0),.v (.int .u8 0),.v (.int .u8 0),.v (.int .u8 0),.v (.int .u8 0),.v (.int .u8 0),.v (.int .u8 0),.v (.int .u8 0),.v (.int .u8 0),.v (.int .u8 0),.v (.int .u8 0),.v (.int .u8 0),.v (.int .u8 0),.v (.int .u8 0),.v (.int .u8 0),.v (.int .u8 0),.v (.int .u8 0),.v (.int .u8 0),.v (.int .u8 0),.v (.int .u8 0),.v (.int .u8 0),.v (.int .u8 0),.v (.int .u8 0)]),
 (356,.arr 64 1 true [.v (.int .u8 0),.v (.int .u8 0),.v (.int .u8 0),.v (.int .u8 0),.v (.int .u8 0),.v (.int .u8 0),.v (.int .u8 0),.v (.int .u8 0),.v (.int .u8 0),.v (.int .u8 0),.v (.int .u8 0),.v (.int .u8 0),.v (.int .u8 0),.v (.int .u8 0),.v (.int .u8 0),.v (.int .u8 0),.v (.int .u8 0),.v (.int .u8 0),.v (.int .u8 0),.v (.int .u8 0),.v (.int .u8 0),.v (.int .u8 0),.v (.int .u8 0),.v (.int .u8 0),.v (.int .u8 0),.v (.int .u8 0),.v (.int .u8 0),.v (.int .u8 0),.v (.int .u8 0),.v (.int .u8 0),.v (.int .u8 0),.v (.int .u8 0),.v (.int .u8 0),.v (.int .u8 0),.v (.int .u8 0),.v (.int .u8 0),.v (.int .u8 0),.v (.int .u8 0),.v (.int .u8 0),.v (.int .u8 0),.v (.int .u8 0),.v (.int .u8 0),.v (.int .u8 0),.v (.int .u8 0),.v (.int .u8 0),.v (.int .u8 0),.v (.int .u8 0),.v (.int .u8 0),.v (.int .u8 0),.v (.int .u8 0),.v (.int .u8 0),.v (.int .u8 0),.v (.int .u8 0),.v (.int .u8 0),.v (.int .u8 0),.v (.int .u8 0),.v (.int .u8 0),.v (.int .u8 0),.v (.int .u8 0),.v (.int .u8 0),.v (.int .u8 0),.v (.int .u8 0),.v (.int .u8 0),.v (.int .u8 0)]),
 (21,.int .i32),
 (68,.flat [0,0] [.v (.int .i64 0),.v (.int .i64 0)]),
 (89,.flat [2,0,0] [.v (.string ByteArray.empty),.v (.int .i64 0),.v (.int .i64 0)])]
theorem acU:dN Tryz.prog tab=true:=by kernel_rfl
theorem cO:Tryz.prog.follows .mixedOrders=true:=by kernel_rfl
theorem aC{f:FuncId}{fn:Func}{c:Code}{xs:List AV}{r:AV}(hf:Tryz.prog.funcs[f]?=some fn)(hb:fn.body=some c)(h:zh (Den Tryz.prog) tab c (Xt tab fn r) (D5 0 xs) [])(a:dW Tryz.prog f=true:=by kernel_rfl)(t:iU fn.ntmps c=true:=by kernel_rfl)(l:Nat.ble xs.length fn.ntmps=true:=by kernel_rfl)(n:kS xs=true:=by rfl):Den Tryz.prog f xs r:=qp acU cO hf hb a t l h n
end Go.Proofs.YtmniihkenijjpaaGreatDoor
namespace Go.Sw
open Go Go.RowKit
theorem o7{P:Program}(i j:Wld P)(hij:∀w,j.ok w→i.ok w){f:FuncId}{xs:List AV}{r:AV}(h : @Den P i f xs r):@Den P j f xs r:=by
 revert h;unfold Den;split
 ·exactλh=>⟨h.1,λw X g T us vs more mo hW=>h.2 w X g T us vs more mo (hij w hW)⟩
 ·exact id
 ·exactλh=>⟨h.1,λw X g cap uss rest vs hW=>h.2 w X g cap uss rest vs (hij w hW)⟩
 ·exactλh=>⟨h.1,λw X g cap uss rest vs hW=>h.2 w X g cap uss rest vs (hij w hW)⟩
 ·exactλh=>⟨h.1,λw X vs hW=>h.2 w X vs (hij w hW)⟩
structure MapSays (P:Program) (t:TypeId) (g:Nat) (f:Int→ByteArray) (w:World):Prop where
 ex:∃bm es clock,w.cell? ⟨g,0,none⟩=some (.map (some bm))∧w.heap[bm]?=some (.map es clock)∧∀w':World,w'.heap[bm]?=some (.map es clock)→∀k:Int,-9223372036854775808≤k→k≤9223372036854775807→(Instr.lookup t (.map (some bm)) (.int .i64 k) false).run P w'=.ok (.string (f k)) w'
theorem MapSays.run{P:Program}{t:TypeId}{g:Nat}{f:Int→ByteArray}{w:World}(h:MapSays P t g f w)(k:Int)(h1 : -9223372036854775808≤k)(h2:k≤9223372036854775807):
 ∃bm,w.cell? ⟨g,0,none⟩=some (.map (some bm))∧(Instr.lookup t (.map (some bm)) (.int .i64 k) false).run P w=.ok (.string (f k)) w:=by
 obtain⟨bm,es,clock,a,b,c⟩:=h.ex;exact⟨bm,a,c w b k h1 h2⟩
end Go.Sw
namespace Go.Proofs.YtmniihkenijjpaaGreatDoor
open Go Go.RowKit Go.Sw Go.Shelf Go.Sort Go.Lib
set_option maxRecDepth 100000
set_option maxHeartbeats 8000000
def aas:Go.Shelf.Ren:=⟨λn=>if n=284 then 351 else if n=317 then 362 else if n=318 then 363 else if n=129 then 267 else n,λn=>if n=46 then 228 else if n=53 then 152 else if n=212 then 353 else n,λn=>if n=17 then 1 else n⟩
theorem acd:Go.Proofs.Lays.n284 Tryz.prog aas where
 mixed:=cO
 f284:=zF Tryz.func351 (congrArg some (Eq.refl _))
 f317:=zF Tryz.func362 (congrArg some (Eq.refl _))
 f318:=zF Tryz.func363 (congrArg some (Eq.refl _))
 f129:=zF Tryz.func267 (congrArg some (Eq.refl _))
 t0:=Tryz.underlying0
 a0:=Tryz.isAgg0
 z0:=Tryz.sizeOf0
 v0:=Tryz.zeroValue0
 t3:=Tryz.underlying3
 a3:=Tryz.isAgg3
 z3:=Tryz.sizeOf3
 v3:=Tryz.zeroValue3
 t4:=Tryz.underlying4
 a4:=Tryz.isAgg4
 z4:=Tryz.sizeOf4
 v4:=Tryz.zeroValue4
 t5:=Tryz.underlying5
 a5:=Tryz.isAgg5
 z5:=Tryz.sizeOf5
 v5:=Tryz.zeroValue5
 t9:=Tryz.underlying9
 a9:=Tryz.isAgg9
 z9:=Tryz.sizeOf9
 v9:=Tryz.zeroValue9
 t46:=Tryz.underlying228
 a46:=Tryz.isAgg228
 z46:=Tryz.sizeOf228
 v46:=Tryz.zeroValue228
 t53:=Tryz.underlying152
 a53:=Tryz.isAgg152
 z53:=Tryz.sizeOf152
 v53:=Tryz.zeroValue152
 t212:=Tryz.underlying353
 a212:=Tryz.isAgg353
 z212:=Tryz.sizeOf353
 v212:=Tryz.zeroValue353
 g17:=by kernel_rfl
theorem afI:Go.Proofs.LaysM.n284 Tryz.prog aas where
 ton284:=acd
 i0:=by kernel_rfl
 i3:=by kernel_rfl
 i4:=by kernel_rfl
 i5:=by kernel_rfl
 i9:=by kernel_rfl
 i46:=by kernel_rfl
 i53:=by kernel_rfl
 i212:=by kernel_rfl
 m17:=by kernel_rfl
def adx:Go.Shelf.Ren:=⟨λn=>if n=285 then 352 else n,λn=>if n=37 then 270 else if n=51 then 154 else if n=53 then 152 else n,λn=>n⟩
theorem acK:Go.Proofs.Lays.n285 Tryz.prog adx where
 mixed:=cO
 f285:=zF Tryz.func352 (congrArg some (Eq.refl _))
 t0:=Tryz.underlying0
 a0:=Tryz.isAgg0
 z0:=Tryz.sizeOf0
 v0:=Tryz.zeroValue0
 t3:=Tryz.underlying3
 a3:=Tryz.isAgg3
 z3:=Tryz.sizeOf3
 v3:=Tryz.zeroValue3
 t4:=Tryz.underlying4
 a4:=Tryz.isAgg4
 z4:=Tryz.sizeOf4
 v4:=Tryz.zeroValue4
 t5:=Tryz.underlying5
 a5:=Tryz.isAgg5
 z5:=Tryz.sizeOf5
 v5:=Tryz.zeroValue5
 t9:=Tryz.underlying9
 a9:=Tryz.isAgg9
 z9:=Tryz.sizeOf9
 v9:=Tryz.zeroValue9
 t37:=Tryz.underlying270
 a37:=Tryz.isAgg270
 z37:=Tryz.sizeOf270
 v37:=Tryz.zeroValue270
 t51:=Tryz.underlying154
 a51:=Tryz.isAgg154
 z51:=Tryz.sizeOf154
 v51:=Tryz.zeroValue154
 t53:=Tryz.underlying152
 a53:=Tryz.isAgg152
 z53:=Tryz.sizeOf152
 v53:=Tryz.zeroValue152
set_option maxHeartbeats 6400000 in
set_option maxRecDepth 100000 in
theorem YD(u:Nat)(h1:100≤u)(hu64:u<18446744073709551616)(w:World)(htab:Lib.TabIs Tryz.prog w "internal/strconv.uint64pow10" .u64 Lib.pow10Tab):
 Calls Tryz.prog 325 #[.int .u64 u,.int .i64 10] w λe w'=>e=.returned (.string ⟨(Lib.decDigits u).toArray⟩)∧Below w.heap.size w w':=by
 have hu1:1≤u:=by omega
 have hlt:¬((u:Int)<100):=by omega
 have hnd20:Lib.nDigits u≤20:=Lib.nDigits_le20 u hu64;have hal:Tryz.prog.arrayLen 340=24:=by kernel_rfl
 have hsl:∀W,(Instr.sliceAt 340 (.pointer (some ⟨w.heap.size,0,none⟩)) none (some (.int .i64 (Lib.nDigits u:Int))) none).run Tryz.prog W=.ok (.slice (some ⟨w.heap.size,0,none⟩) (Lib.nDigits u) 24) W:=λW=>by
  rw[run_sliceAt_array_h W 340 ⟨w.heap.size,0,none⟩ (by simp[Program.arrayLen,Program.elem,Tryz.underlying340]) .i64 (Lib.nDigits u:Int) (by omega) (by rw[hal];omega)]
  go_simp
 have hH0:=Lib.holds_zero0 w 340 (Lib.nDigits u) (by omega);have hfmt:=Any.internal_strconv_formatBase10 acK w.heap.size 0 24 u (Array.replicate (Lib.nDigits u) 0) (w.alloc (.cells Lib.zeros24 340)) hH0 (by rw[Array.size_replicate];exact Lib.lt_pow_nDigits u) hu64 (by rw[Array.size_replicate];omega);rw[Array.size_replicate]at hfmt;have HH0:=Lib.hid hH0;clear hH0 hal
 go_enter Tryz.func325,Tryz.ntmps325
 go_wp2_with (first
  |(go_at_call 351;refine(Any.internal_strconv_numDigits afI u hu1 hu64 _ (Lib.tabIs_alloc htab _)).mono ?_;rintro e w' ⟨rfl,rfl⟩))
 go_at_call 352
 refine hfmt.mono ?_;rintro e w' ⟨rfl,k,v',dk,rfl,hF⟩
 have hcv:(convert 270 9 (.slice (some ⟨w.heap.size,0,none⟩) (Lib.nDigits u) 24)).run Tryz.prog ((putRow (λ(b:UInt8)=>Value.int .u8 (b.toNat:Int)) (w.alloc (.cells Lib.zeros24 340)) w.heap.size 0 dk).drewN k)=.ok (.string ⟨(Lib.decDigits u).toArray⟩) ((putRow (λ(b:UInt8)=>Value.int .u8 (b.toNat:Int)) (w.alloc (.cells Lib.zeros24 340)) w.heap.size 0 dk).drewN k):=by
  have h:=run_convert_bytes_back (P:=Tryz.prog) ((putRow (λ(b:UInt8)=>Value.int .u8 (b.toNat:Int)) (w.alloc (.cells Lib.zeros24 340)) w.heap.size 0 dk).drewN k) 270 9 5 ⟨w.heap.size,0,none⟩ 24 (Lib.decDigits u) Tryz.underlying270 Tryz.underlying5 Tryz.underlying9 (λj hj=>by
   rw[Lib.row_is_numeral hF j hj,Lib.add_plain,World.cell?_drewN]
   exact cell?_putRow (λ(b:UInt8)=>Value.int .u8 (b.toNat:Int)) _ w.heap.size 0 _ dk HH0.out (by rw[hF.size,Array.size_replicate]) j (by rw[hF.size];rw[Lib.decDigits_length]at hj;exact hj))
  rw[Lib.decDigits_length]at h;exact h
 go_wp2
 go_ret
 refine⟨rfl, ?_⟩;rw[alloc_eq_grow];obtain⟨os',_,e⟩:=putRow_grow_new (λ(b:UInt8)=>Value.int .u8 (b.toNat:Int)) w #[.cells Lib.zeros24 340] w.heap.size 0 dk (jE _);rw[e];exact Lib.below_grow _ w (jE _) k os'
end Go.Proofs.YtmniihkenijjpaaGreatDoor
namespace Go.Sw
open Go Go.RowKit
theorem CU{P:Program}{w:World}:∀{l:List (String×DataW Unit)} {ps:List MemPlace},DataW.LaidVars P w l ps→∀x∈l,∃g t cs fuel p,P.globalNamed x.1=some g∧(P.globals[g]?).map (·.type)=some t∧w.var? P x.1=some cs∧DataW.trod (λ_=>()) P w 0 (λ_=>true) false fuel t cs.toList=some (x.2,p)
 |[],_,_,x,hx=>by cases hx
 |(n,d)::r,ps,h,x,hx=>by
  obtain⟨g,t,cs,fuel,p,q,h1,h2,h3,h4,h5,_⟩:=h;rcases rF.1 hx with rfl|hx
  ·exact⟨g,t,cs,fuel,p,h1,h2,h3,h4⟩
  ·exact CU h5 x hx
theorem aa7{P:Program}{W:World}{l:List (String×DataW Unit)}{nm:String}{k:IntKind}{zs:List Int}{g:Nat}{t e:TypeId}(h:laidMet P l W)(hm:(nm,DataW.agg (zs.map λz => .lit (.int k z)))∈l)
 (hg:P.globalNamed nm=some g) (htg:(P.globals[g]?).map (·.type)=some t) (ht:P.underlying t=some (.array zs.length e)) (he:P.underlying e=some (.int k)) (ce:P.cellsOf e=1) (ct:P.cellsOf t=zs.length):Lib.TabIs P W nm k zs:=by
 obtain⟨ps,hl,_⟩:=h;obtain⟨g0,t0,cs,fuel,p,hg0,ht0,hv,hd⟩:=CU hl _ hm;obtain rfl:=OO (hg.symm.trans hg0);obtain rfl:=OO (htg.symm.trans ht0);obtain⟨xs,m,_,ex,hlen,hxl,hel⟩:=DataW.trod_array ht hd
 have e1:zs.map (λz=>DataW.lit (.int k z))=xs.map (·.1):=by
  have:=(Prod.mk.inj ex).1;exact DataW.agg.inj this
 unfold Lib.TabIs;rw[hv];congr 1;apply Dv;rw[List.toArray];show cs.toList=zs.map (Value.int k);apply List.ext_getElem
 ·rw[hlen,ct,aZ]
 ·intro i h1 h2;have hi:i<zs.length:=by simpa using h2
  have h3:=hel i hi;rw[ce,Nat.mul_one]at h3;have hx:xs[i]?=some xs[i]:=jg (by omega);rw[hx]at h3;obtain⟨n,a,b,_⟩:=DataW.trod_int he h3;have h4:(zs.map (λz=>DataW.lit (H:=Unit) (.int k z)))[i]?=(xs.map (·.1))[i]?:=by rw[e1]
  rw[zQ,zQ,jg hi,hx,b]at h4;simp at h4
  have h5:cs.toList[i]?=some (.int k n):=by
   have:((cs.toList.drop i).take 1)[0]?=some (.int k n):=by rw[a];rfl
   rw[Dw,if_pos (by omega),KX,Wq]at this;exact this
  rw[jg h1]at h5;rw[OO h5,List.getElem_map,h4]
theorem Iz{P:Program}{w w':World}{nm:String}{k:IntKind}{zs:List Int}(h:Lib.TabIs P w nm k zs)(hb:Below w.heap.size w w'):Lib.TabIs P w' nm k zs:=by
 unfold Lib.TabIs World.var? at h ⊢;cases hg:P.globalNamed nm with
 |none=>rw[hg]at h;cases h
 |some g =>
  rw[hg]at h;simp only[QJ]at h ⊢
  have hl:g<w.heap.size:=by
   rcases D7 g w.heap.size with h'|h'
   ·exact h'
   ·rw[Array.getElem?_eq_none h']at h;cases h
  rw[hb.block g hl];exact h
end Go.Sw
namespace Go.Sw
open Go Go.Lib
def GI:Nat→Nat→List UInt8
 |0,_=>[]
 |k+1,n=>GI k (n/10)++[UInt8.ofNat (48+n%10)]
theorem KG:∀(k n:Nat),(GI k n).length=k
 |0,_=>rfl
 |k+1,n=>by rw[GI,iy,KG k];rfl
theorem tq{n:Nat}(h:n<10):decDigits n=[UInt8.ofNat (48+n)]:=by rw[decDigits,dif_pos h]
theorem Pg{n:Nat}(h:¬n<10):decDigits n=decDigits (n/10)++[UInt8.ofNat (48+n%10)]:=by rw[decDigits,dif_neg h]
theorem Py(n:Nat):0<(decDigits n).length:=by rw[decDigits_length];exact nDigits_pos n
theorem OU:∀(k a x:Nat),0<a→x<10^k→decDigits (a*10^k+x)=decDigits a++GI k x
 |0,a,x,ha,hx=>by
  have:x=0:=by simpa using hx
  subst this;simp[GI]
 |k+1,a,x,ha,hx=>by
  have hp:10^(k+1)=10^k*10:=AB 10 k;have h1:0<10^k:=Nat.pow_pos (by decide);have e:a*10^(k+1)+x=(a*10^k)*10+x:=by rw[hp,VZ]
  have hge:¬(a*10^(k+1)+x)<10:=by
   have:=Nat.mul_pos ha h1;omega
  have hd:(a*10^(k+1)+x)/10=a*10^k+x/10:=by omega
  have hm:(a*10^(k+1)+x)%10=x%10:=by omega
  rw[Pg hge,hd,hm,OU k a (x/10) ha (by omega),GI,nT]
theorem GR:∀(k n:Nat),0<k→n<10^k→GI k n=List.replicate (k-nDigits n) 48++decDigits n
 |0,n,hk,_=>absurd hk (by decide)
 |1,n,_,h=>by
  have h:n<10:=by simpa using h
  rw[nDigits_small h,tq h];simp[GI,PX h]
 |k+2,n,_,h=>by
  have hp:10^(k+2)=10^(k+1)*10:=AB 10 (k+1);rw[GI,GR (k+1) (n/10) (by omega) (by omega)]
  by_cases h10:n<10
  ·have h0:n/10=0:=by omega
   rw[h0,nDigits_small h10,nDigits_small (show 0<10 by decide),tq h10,tq (show 0<10 by decide),PX h10];rw[show k+2-1=(k+1-1)+1 by omega,List.replicate_succ'];rfl
  ·rw[nDigits_big h10,Pg h10,show k+2-(nDigits (n/10)+1)=k+1-nDigits (n/10) by omega,nT]
theorem vT{k n:Nat}(hk:0<k)(h:n<10^k):nDigits n≤k:=by
 have h1:=KG k n;rw[GR k n hk h,iy,zO,decDigits_length]at h1;omega
def sD(n:Nat):ByteArray:=⟨(decDigits n).toArray⟩
def uF(n:Int):ByteArray:=⟨((if n<0 then[45]else[])++decDigits n.natAbs).toArray⟩
end Go.Sw
namespace Go.Sw
open Go
def rz(q:Rat):Nat:=sz q.num+sz q.den
theorem nC(q:Rat):sz q.num≤rz q:=Nat.le_add_right _ _
theorem oM(q:Rat):sz q.den≤rz q:=Nat.le_add_left _ _
theorem O5{q:Rat}{a b:Int}(h1:q.num=a)(h2:(q.den:Int)=b):aA [AV.agg [zs a,zl a,zs b,zl b]]=R q:=by subst h1 h2;rfl
theorem Xx(n d:Int):((Nat.gcd n.natAbs d.natAbs:Nat):Int)=((d.gcd n:Nat):Int):=by rw[Nat.gcd_comm];rfl
theorem FH{n d:Int}(hd:0<d):((n:Rat)/d).num=n.fdiv (Nat.gcd n.natAbs d.natAbs:Nat)∧((((n:Rat)/d).den:Nat):Int)=d.fdiv (Nat.gcd n.natAbs d.natAbs:Nat):=by
 rw[←Rat.divInt_eq_div,Rat.num_divInt,Rat.den_divInt,Xx,if_neg (by omega)];have hg:0<d.gcd n:=Int.gcd_pos_of_ne_zero_left n (by omega);rw[Int.sign_eq_one_of_pos hd,Int.one_mul];refine⟨?_, ?_⟩
 ·rw[qbN _ (by omega)]
 ·rw[qbN _ (by omega),Int.natCast_ediv];congr 1;omega
theorem X7{n d:Int}(hd:d<0):((n:Rat)/d).num=(-n).fdiv (Nat.gcd (-n).natAbs (-d).natAbs:Nat)∧((((n:Rat)/d).den:Nat):Int)=(-d).fdiv (Nat.gcd (-n).natAbs (-d).natAbs:Nat):=by
 have h:=FH (n:=-n) (d:=-d) (by omega)
 have e:((-n:Int):Rat)/((-d:Int):Rat)=(n:Rat)/d:=by
  have:(d:Rat)≠0:=by intro h0;have:=(Rat.intCast_inj (a:=d) (b:=0)).1 (by simpa using h0);omega
  rw[Rat.intCast_neg,Rat.intCast_neg];grind
 rwa [e]at h
theorem acR{n d:Int}(hd:d≠0):sz ((n:Rat)/d).num≤sz n∧sz ((n:Rat)/d).den≤sz d:=by
 have key:∀{n d:Int},0<d→sz ((n:Rat)/d).num≤sz n∧sz ((n:Rat)/d).den≤sz d:=by
  intro n d hd;obtain⟨h1,h2⟩:=FH (n:=n) hd;have hg:0<Nat.gcd n.natAbs d.natAbs:=Nat.gcd_pos_of_pos_right _ (by omega);rw[h1,h2];constructor<;>apply ou
  ·rw[qbN _ (by omega)];have:(Nat.gcd n.natAbs d.natAbs:Int) ∣ n:=Int.ofNat_dvd_left.2 (Nat.gcd_dvd_left _ _);rw[Int.natAbs_ediv_of_dvd this];exact RQ _ _
  ·rw[qbN _ (by omega)];have:(Nat.gcd n.natAbs d.natAbs:Int) ∣ d:=Int.ofNat_dvd_left.2 (Nat.gcd_dvd_right _ _);rw[Int.natAbs_ediv_of_dvd this];exact RQ _ _
 rcases Int.lt_or_gt_of_ne hd with h|h
 ·have e:((-n:Int):Rat)/((-d:Int):Rat)=(n:Rat)/d:=by
   have:(d:Rat)≠0:=by intro h0;have:=(Rat.intCast_inj (a:=d) (b:=0)).1 (by simpa using h0);omega
   rw[Rat.intCast_neg,Rat.intCast_neg];grind
  have:=key (n:=-n) (d:=-d) (by omega);rw[e,jJ,jJ]at this;exact this
 ·exact key h
theorem aJ(q:Rat):(q.den:Int)≠0:=by have:=q.den_nz;omega
theorem den_pos(q:Rat):(0:Int)<q.den:=by have:=q.den_nz;omega
theorem lu(q:Rat):((q.den:Int):Rat)≠0:=by
 intro h0;have:=(Rat.intCast_inj (a:=q.den) (b:=0)).1 (by simpa using h0);exact aJ q this
theorem lI(q:Rat):(q.num:Rat)=q*(q.den:Int):=by
 have h:=Rat.num_divInt_den q;rw[Rat.divInt_eq_div]at h;have:=lu q
 grind
theorem add_div(a b:Rat):((a.num*b.den+b.num*a.den:Int):Rat)/((a.den*b.den:Int):Rat)=a+b:=by
 have h1:=lI a;have h2:=lI b;have h3:=lu a;have h4:=lu b;rw[Rat.intCast_add,QW,QW,QW]
 grind
theorem Wv(a b:Rat)(h:(a.den:Int)=b.den):((a.num+b.num:Int):Rat)/((a.den:Int):Rat)=a+b:=by
 have h1:=lI a;have h2:=lI b;have h3:=lu a;rw[Rat.intCast_add,h1,h2,←h]
 grind
theorem mul_div(a b:Rat):((a.num*b.num:Int):Rat)/((a.den*b.den:Int):Rat)=a*b:=by
 have h1:=lI a;have h2:=lI b;have h3:=lu a;have h4:=lu b;rw[QW,QW]
 grind
theorem abZ{b:Rat}(h:b≠0):((b.num:Int):Rat)≠0:=by
 rw[lI];have:=lu b;grind
theorem Pz(a b:Rat)(h:b≠0):((a.num*b.den:Int):Rat)/((a.den*b.num:Int):Rat)=a/b:=by
 have h1:=lI a;have h2:=lI b;have h3:=lu a;have h4:=lu b;rw[QW,QW]
 grind
theorem FZ{n d:Int}(hd:d≠0):rz ((n:Rat)/d)≤sz n+sz d:=by
 have:=acR (n:=n) hd;unfold rz;omega
theorem rP(a b:Rat):rz (a+b)≤2*(rz a+rz b)+1:=by
 rw[←add_div];have h:=FZ (n:=a.num*b.den+b.num*a.den) (d:=(a.den*b.den:Int)) (uD (aJ a) (aJ b));have h1:=qK (a.num*b.den) (b.num*a.den);have h2:=jM a.num b.den;have h3:=jM b.num a.den;have h4:=jM a.den b.den;unfold rz at h ⊢;omega
theorem oD(a b:Rat):rz (a*b)≤rz a+rz b:=by
 rw[←mul_div];have h:=FZ (n:=a.num*b.num) (d:=(a.den*b.den:Int)) (uD (aJ a) (aJ b));have h2:=jM a.num b.num;have h4:=jM a.den b.den;unfold rz at h ⊢;omega
theorem qL(a:Rat):rz (-a)=rz a:=by unfold rz;rw[Rat.neg_num,Rat.neg_den,jJ]
theorem vO(a b:Rat):rz (a-b)≤2*(rz a+rz b)+1:=by
 have:=rP a (-b);rw[qL]at this;rwa [Rat.sub_eq_add_neg]
theorem abz(a b:Rat)(h:b≠0):rz (a/b)≤rz a+rz b:=by
 rw[←Pz a b h];have hb:b.num≠0:=λh0=>abZ h (by rw[h0];rfl)
 have h:=FZ (n:=a.num*b.den) (d:=(a.den*b.num:Int)) (uD (aJ a) hb);have h2:=jM a.num b.den;have h4:=jM a.den b.num;unfold rz at h ⊢;omega
theorem sO:sz 1≤1:=OM (by decide)
theorem qH(n:Int):rz (n:Rat)≤sz n+1:=by
 unfold rz;rw[Rat.num_intCast,Rat.den_intCast];have:=sO;simp;exact this
theorem XI{a:Int}:jr a<0↔a<0:=by unfold jr;split<;>(try split)<;>omega
theorem J3{a:Int}:jr a≤0↔a≤0:=by unfold jr;split<;>(try split)<;>omega
theorem WV{a:Int}:jr a>0↔a>0:=by unfold jr;split<;>(try split)<;>omega
theorem Vy{a:Int}:jr a≥0↔a≥0:=by unfold jr;split<;>(try split)<;>omega
theorem pV{a:Int}:jr a=1↔0<a:=by unfold jr;split<;>(try split)<;>omega
theorem WO{a b:Int}:jC a b≤0↔a≤b:=by unfold jC;split<;>(try split)<;>omega
theorem TR{a b:Int}:jC a b≥0↔a≥b:=by unfold jC;split<;>(try split)<;>omega
def iV(a b:Rat):Int:=if a<b then -1 else if b<a then 1 else 0
def bG(a:Rat):Int:=if a<0 then -1 else if a=0 then 0 else 1
theorem aan(a b:Rat):jC (a.num*b.den) (b.num*a.den)=iV a b:=by
 unfold jC iV;simp only[Rat.lt_iff]
theorem ZL(a:Rat):a.num<0↔a<0:=by rw[Rat.lt_iff];simp
theorem PS(a:Rat):a.num=0↔a=0:=by simp
theorem YC(a:Rat):jr a.num=bG a:=by unfold jr bG;simp only[ZL,PS]
theorem Xi{a b:Rat}:iV a b<0↔a<b:=by unfold iV;split<;>(try split)<;>simp_all
theorem I4{a b:Rat}:iV a b>0↔b<a:=by unfold iV;split<;>(try split)<;>simp_all<;>grind
theorem KH{a b:Rat}:iV a b=0↔a=b:=by unfold iV;split<;>(try split)<;>simp_all<;>grind
theorem VE{a b:Rat}:iV a b≤0↔a≤b:=by unfold iV;split<;>(try split)<;>simp_all<;>grind
theorem XH{a b:Rat}:iV a b≥0↔b≤a:=by unfold iV;split<;>(try split)<;>simp_all<;>grind
theorem I9{a:Rat}:bG a<0↔a<0:=by unfold bG;split<;>(try split)<;>simp_all
theorem iM{a:Rat}:bG a=0↔a=0:=by unfold bG;split<;>(try split)<;>simp_all<;>grind
theorem SY{a:Rat}:bG a>0↔0<a:=by unfold bG;split<;>(try split)<;>simp_all<;>grind
theorem V9{a:Rat}:bG a≤0↔a≤0:=by unfold bG;split<;>(try split)<;>simp_all<;>grind
theorem XD{a:Rat}:bG a≥0↔0≤a:=by unfold bG;split<;>(try split)<;>simp_all<;>grind
theorem pO{a:Rat}:bG a=1↔0<a:=by unfold bG;split<;>(try split)<;>simp_all<;>grind
def iD:=And.intro @XI <| And.intro @yP <| And.intro @J3 <| And.intro @WV <| And.intro @Vy <| And.intro @pV <| And.intro @Ce <| And.intro @Dq <| And.intro @JH <| And.intro @WO <| And.intro @TR <| And.intro @aan <| And.intro @YC <| And.intro @I9 <| And.intro @iM <| And.intro @SY <| And.intro @V9 <| And.intro @XD <| And.intro @pO <| And.intro @Xi <| And.intro @I4 <| And.intro @KH <| And.intro @VE <| @XH
theorem Je(a:Rat):a.num.fdiv a.den=a.floor:=by
 rw[Rat.floor_def,qbN _ (by omega)]
def ZR:AV:=.agg [.v (.bool false),.sl 1 [],.v (.bool false),.sl 1 []]
theorem aeH(n:Int):((0:Int):Rat)/((1:Int):Rat)=(n:Rat)/((0:Int):Rat):=by
 have h1:((0:Int):Rat)=0:=rfl;rw[h1,Rat.div_def (n:Rat),Rat.inv_zero];grind
theorem Z0:Z 0=.agg [.v (.bool false),.sl 1 []]:=by
 have:lim 0=[]:=fE;simp[Z,zs,zl,aV,this]
theorem KT(n:Nat):(lim n).length=0↔n=0:=by rw[List.length_eq_zero_iff,FN]
theorem xZ(n:Nat):(((lim n).length:Nat):Int)=0↔n=0:=by rw[←KT];omega
theorem yh(n:Nat):(((lim n).length:Nat):Int)>0↔¬n=0:=by rw[←KT];omega
theorem zJ(a b:Int):a.natAbs=b.natAbs*(a.natAbs/b.natAbs)+a.natAbs%b.natAbs:=(Nat.div_add_mod _ _).symm
theorem UZ(a:Int):aA [AV.agg [Cell.v (Value.bool false),Cell.sl 1 []],AV.agg [Cell.v (Value.bool false),Cell.sl 1 []],.int .i64 6]=.tup [Z (a.fdiv 0),Z (if(0:Int)=0 then 0 else a.fmod 0),.int .i64 (if(0:Int)=0 then 6 else 0)]:=by
 have h:a.fdiv 0=0:=by simp
 rw[h,if_pos rfl,if_pos rfl,Z0];rfl
theorem Jf{a b:Int}(hb:¬b.natAbs=0)(h:a.natAbs%b.natAbs=0∨¬(decide (a<0) != decide (b<0))=true):
 aA [Z (eG (decide (a<0) != decide (b<0)) (a.natAbs/b.natAbs)),Z (eG (decide (a<0)) (a.natAbs%b.natAbs)),.int .i64 0]=.tup [Z (a.fdiv b),Z (if b=0 then 0 else a.fmod b),.int .i64 (if b=0 then 6 else 0)]:=by
 have hb':b≠0:=by omega
 obtain⟨h1,h2⟩:=Zk (a:=a) hb' (zJ a b) (xU _ (by omega)) (by rcases h with h|h;exact .inl h;right;by_cases h1:a<0<;>by_cases h2:b<0<;>simp_all<;>omega);rw[h1,h2,if_neg hb',if_neg hb'];rfl
theorem Vb{a b:Int}(hb:¬b.natAbs=0)(h0:¬a.natAbs%b.natAbs=0)(h:(decide (a<0) != decide (b<0))=true):
 aA [Z (eG (decide (a<0) != decide (b<0)) (a.natAbs/b.natAbs)-1),Z (eG (decide (a<0)) (a.natAbs%b.natAbs)+b),.int .i64 0]=.tup [Z (a.fdiv b),Z (if b=0 then 0 else a.fmod b),.int .i64 (if b=0 then 6 else 0)]:=by
 have hb':b≠0:=by omega
 obtain⟨h1,h2⟩:=ZY (a:=a) hb' (zJ a b) (xU _ (by omega)) (by omega) (by by_cases h1:a<0<;>by_cases h2:b<0<;>simp_all);rw[h1,h2,if_neg hb',if_neg hb'];rfl
theorem Ql(neg:Bool)(n:Nat)(a:Int)(h:n≤a.natAbs):sz (eG neg n)≤sz a:=ou (by rw[lT];exact h)
def uI:Nat→Nat
 |0=>0
 |n+1=>if(uI n+1)*(uI n+1)≤n+1 then uI n+1 else uI n
theorem MJ:∀n,uI n*uI n≤n∧n<(uI n+1)*(uI n+1)
 |0=>by simp[uI]
 |n+1=>by
  obtain⟨h1,h2⟩:=MJ n;unfold uI;split
  ·rename_i h;refine⟨h, ?_⟩;have e:(uI n+1+1)*(uI n+1+1)=(uI n+1)*(uI n+1)+2*(uI n+1)+1:=by grind
   omega
  ·exact⟨by omega,by omega⟩
theorem U5{n r:Nat}(h1:r*r≤n)(h2:n<(r+1)*(r+1)):r=uI n:=by
 obtain⟨q1,q2⟩:=MJ n;rcases Nat.lt_trichotomy r (uI n)with h|h|h
 ·have:=PD (show r+1≤uI n by omega) (show r+1≤uI n by omega);omega
 ·exact h
 ·have:=PD (show uI n+1≤r by omega) (show uI n+1≤r by omega);omega
theorem V8{n:Nat}(h:n≤1000000000000):IntKind.i64.wrap ((IntKind.i64.wrap ((n:Nat)+1)).tdiv 2)=(((n+1)/2:Nat):Int):=by
 rw[bP (a:=(n:Nat)+1) (by omega) (by omega),Int.tdiv_eq_ediv_of_nonneg (by omega),bP (by omega) (by omega)];omega
theorem Z9{a:Int}(h:a<0):aA [AV.agg [Cell.v (Value.bool false),Cell.sl 1 []],AV.c (Cell.v (Value.int IntKind.i64 7))]=AV.tup [Z (if a<0 then 0 else(uI a.natAbs:Nat)),AV.int IntKind.i64 (if a<0 then 7 else 0)]:=by
 rw[if_pos h,if_pos h,Z0];rfl
theorem Ue{a:Int}(h:¬a<0)(h0:a.natAbs=0):aA [AV.agg [Cell.v (Value.bool false),Cell.sl 1 []],AV.c (Cell.v (Value.int IntKind.i64 0))]=AV.tup [Z (if a<0 then 0 else(uI a.natAbs:Nat)),AV.int IntKind.i64 (if a<0 then 7 else 0)]:=by
 rw[if_neg h,if_neg h,h0,show((uI 0:Nat):Int)=0 from rfl,Z0];rfl
theorem Yv{a:Int}{x:Nat}(h:¬a<0)(hx:0<x∧a.natAbs<(x+1)*(x+1)∧sz x≤200000000)(hge:(((x+a.natAbs/x)/2:Nat):Int)≥x):
 aA [AV.agg [zs x,zl x],AV.c (Cell.v (Value.int IntKind.i64 0))]=AV.tup [Z (if a<0 then 0 else(uI a.natAbs:Nat)),AV.int IntKind.i64 (if a<0 then 7 else 0)]:=by
 have h1:=NR hx.1 rfl (show x≤(x+a.natAbs/x)/2 by omega);rw[if_neg h,if_neg h,←U5 h1 hx.2.1];rfl
theorem V3{a:Int}{x:Nat}(h0:¬a.natAbs=0)(hx:0<x∧a.natAbs<(x+1)*(x+1)∧sz x≤200000000)(hge:¬(((x+a.natAbs/x)/2:Nat):Int)≥x):
 0<(x+a.natAbs/x)/2∧a.natAbs<((x+a.natAbs/x)/2+1)*((x+a.natAbs/x)/2+1)∧sz ((x+a.natAbs/x)/2:Nat)≤200000000 :=
 ⟨LP (by omega) hx.1 rfl,EX hx.1 rfl,dh (ou (by rw[Nz,Nz];omega)) hx.2.2⟩
theorem Zh{a:Int}{x:Nat}:sz ((a.natAbs/x:Nat):Int)≤sz a:=ou (by rw[Nz];exact RQ _ _)
theorem bQ{x:Nat}(h:x+1≤9223372036854775807):some (AV.int .i64 (IntKind.i64.wrap ((x:Nat)+1)))=some (AV.int .i64 ((x+1:Nat):Int)):=by
 rw[bP (by omega) (by omega)];rfl
theorem bE{x y:Bool}(h:x=y):aA [AV.c (Cell.v (Value.bool x))]=AV.bool y:=by rw[h];rfl
theorem iE{k:IntKind}{x y:Int}(h:x=y):aA [AV.c (Cell.v (Value.int k x))]=AV.int k y:=by rw[h];rfl
theorem Ua{neg:Bool}{l:List Nat}{x:Nat}(hx:x<l.length)(h:((l.getD x 0:Nat):Int)≥1000000000):false=gV neg l:=MR hx (by omega)
theorem Xl{neg:Bool}{l:List Nat}{x:Nat}(hx:x≤l.length∧∀j,j<x→l.getD j 0<1000000000)(h:¬((x:Nat):Int)<l.length):gV neg l=(decide ((ah l).length=l.length)&&(!neg||decide (0<l.length))) :=
 Fz (CG λj hj=>hx.2 j (by omega))
@[reducible] def Rr(n1:Bool)(l1:List Nat)(n2:Bool)(l2:List Nat):AV:=.agg [.v (.bool n1),aV l1,.v (.bool n2),aV l2]
def jv(n1:Bool)(l1:List Nat)(n2:Bool)(l2:List Nat):Bool:=gV n1 l1&&(gV n2 l2&&(decide (jr (eG n2 (val l2))=1)&&decide (((Nat.gcd (val l1) (val l2):Nat):Int)=1)))
theorem tK{neg:Bool}{l:List Nat}(h:gV neg l=true):∃x:Int,neg=decide (x<0)∧l=lim x.natAbs:=⟨_,LM h⟩
theorem zA(n1:Bool)(l1:List Nat)(n2:Bool)(l2:List Nat):gV n1 l1=false∨(∃x:Int,n1=decide (x<0)∧l1=lim x.natAbs∧gV n2 l2=false)∨∃x y:Int,n1=decide (x<0)∧l1=lim x.natAbs∧n2=decide (y<0)∧l2=lim y.natAbs:=by
 cases h1:gV n1 l1 with
 |false=>exact .inl rfl
 |true =>
  obtain⟨x,rfl,rfl⟩:=tK h1;cases h2:gV n2 l2 with
  |false=>exact .inr (.inl ⟨x,rfl,rfl,rfl⟩)
  |true =>
   obtain⟨y,rfl,rfl⟩:=tK h2;exact .inr (.inr ⟨x,y,rfl,rfl,rfl,rfl⟩)
theorem kX(x y:Int):jv (decide (x<0)) (lim x.natAbs) (decide (y<0)) (lim y.natAbs)=(decide (jr y=1)&&decide (((Nat.gcd x.natAbs y.natAbs:Nat):Int)=1)):=by
 unfold jv;rw[qQ,qQ,aB,aB,Aj];rfl
theorem NS(q:Rat):jv (decide (q.num<0)) (lim q.num.natAbs) (decide ((q.den:Int)<0)) (lim (q.den:Int).natAbs)=true:=by
 rw[kX,pV.2 (den_pos q),Nz];have:=q.reduced;simp[this.gcd_eq_one]
theorem QH{n1:Bool}{l1:List Nat}{n2:Bool}{l2:List Nat}(h:jv n1 l1 n2 l2=true):∃q:Rat,n1=decide (q.num<0)∧l1=lim q.num.natAbs∧n2=decide ((q.den:Int)<0)∧l2=lim (q.den:Int).natAbs:=by
 have h0:=h;unfold jv at h0;simp only[eF]at h0;obtain⟨x,rfl,rfl⟩:=tK h0.1;obtain⟨y,rfl,rfl⟩:=tK h0.2.1;rw[kX]at h;simp only[eF,decide_eq_true_eq]at h;have hy:=pV.1 h.1;have hg:Nat.gcd x.natAbs y.natAbs=1:=by omega
 refine⟨⟨x,y.natAbs,by omega,hg⟩,rfl,rfl, ?_, ?_⟩
 ·simp only;congr 1;rw[show((y.natAbs:Nat):Int)=y by omega]
 ·simp only[Nz]
@[reducible] def Iv(l h:Int):AV:=.agg [.v (.int .i64 l),.v (.int .i64 h)]
def Ll(l h:Int):Int×Bool:=if l>0 then(1,true)else if h<0 then(-1,true)else(0,decide (l=0∧h=0))
def SH(l h:Int):Option (Int×Int):=if -2305843009213693952≤l∧h≤2305843009213693952 then some (l,h)else none
@[reducible] def Ov(o:Option (Int × Int)):AV:=.tup [Iv (o.getD (0,0)).1 (o.getD (0,0)).2,.bool o.isSome]
theorem OY{l h:Int}(h1 : -2305843009213693952≤l)(h2:h≤2305843009213693952):SH l h=some (l,h):=if_pos ⟨h1,h2⟩
theorem Gv{l h:Int}(h1:¬(-2305843009213693952≤l∧h≤2305843009213693952)):SH l h=none:=if_neg h1
theorem ag8:min (Int.toNat 32) IntKind.u64.bits=32:=rfl
theorem ae8:min (Int.toNat 16) IntKind.u64.bits=16:=rfl
theorem aeQ:min (Int.toNat 48) IntKind.u64.bits=48:=rfl
theorem EH(a n:Nat):((a:Nat):Int).fdiv ((n:Nat):Int)=((a/n:Nat):Int):=by rw[qbN _ (by omega)];rfl
theorem wu(n:Nat):IntKind.u64.wrap ((n:Nat):Int)=((n%18446744073709551616:Nat):Int):=by rw[IntKind.wrap_u64];omega
theorem Q7{a n:Nat}(hn:n≤64)(ha:a<18446744073709551616):Dh .u64 ((a:Nat):Int) ((2^n-1:Nat):Int)=((a%2^n:Nat):Int):=by
 unfold Dh;have h2:2^n≤2^64:=Ik (by decide) hn;have h0:0<2^n:=Nat.pow_pos (by decide)
 have e:(BitVec.ofInt IntKind.u64.bits ((a:Nat):Int) &&& BitVec.ofInt IntKind.u64.bits ((2^n-1:Nat):Int)).toNat=a%2^n:=by
  show(BitVec.ofInt 64 ((a:Nat):Int) &&& BitVec.ofInt 64 ((2^n-1:Nat):Int)).toNat=a%2^n;rw[BitVec.ofInt_natCast,BitVec.ofInt_natCast,BitVec.toNat_and,BitVec.toNat_ofNat,BitVec.toNat_ofNat,PX (show a<2^64 from ha),PX (show 2^n-1<2^64 by omega),Nat.and_two_pow_sub_one_eq_mod]
 rw[e,wu];have h3:a%2^n≤a:=Nat.mod_le _ _;rw[PX (by omega)]
theorem Yj{a b n:Nat}(hn:n≤64)(hb:b<2^n)(ha:2^n*a<18446744073709551616):orI .u64 ((2^n*a:Nat):Int) ((b:Nat):Int)=((2^n*a+b:Nat):Int):=by
 unfold orI;have h2:2^n≤2^64:=Ik (by decide) hn
 have e:(BitVec.ofInt IntKind.u64.bits ((2^n*a:Nat):Int) ||| BitVec.ofInt IntKind.u64.bits ((b:Nat):Int)).toNat=2^n*a+b:=by
  show(BitVec.ofInt 64 ((2^n*a:Nat):Int) ||| BitVec.ofInt 64 ((b:Nat):Int)).toNat=2^n*a+b;rw[BitVec.ofInt_natCast,BitVec.ofInt_natCast,BitVec.toNat_or,BitVec.toNat_ofNat,BitVec.toNat_ofNat,PX (show 2^n*a<2^64 from ha),PX (show b<2^64 by omega),Nat.two_pow_add_eq_or_of_lt hb]
 have hlt:2^n*a+b<18446744073709551616:=by
  have:=(BitVec.ofInt IntKind.u64.bits ((2^n*a:Nat):Int) ||| BitVec.ofInt IntKind.u64.bits ((b:Nat):Int)).isLt;rw[e]at this;exact this
 rw[e,wu,PX hlt]
theorem Qv{a b x0 x1 y0 y1:Nat}(ha:a<18446744073709551616)(hb:b<18446744073709551616)(h1:x0=a%4294967296)(h2:x1=a/4294967296)(h3:y0=b%4294967296)(h4:y1=b/4294967296):
 (x1*y1+(x1*y0+x0*y0%18446744073709551616/4294967296)/4294967296+((x1*y0+x0*y0%18446744073709551616/4294967296)%4294967296+x0*y1)/4294967296)=a*b/18446744073709551616 ∧
 x0*y0≤18446744065119617025∧x1*y0≤18446744065119617025∧x0*y1≤18446744065119617025∧x1*y1≤18446744065119617025:=by
 have b1:x0*y0≤4294967295*4294967295:=PD (by omega) (by omega);have b2:x1*y0≤4294967295*4294967295:=PD (by omega) (by omega);have b3:x0*y1≤4294967295*4294967295:=PD (by omega) (by omega);have b4:x1*y1≤4294967295*4294967295:=PD (by omega) (by omega);have ea:a=x1*4294967296+x0:=by omega
 have eb:b=y1*4294967296+y0:=by omega
 have e:a*b=x1*y1*18446744073709551616+(x1*y0+x0*y1)*4294967296+x0*y0:=by rw[ea,eb];grind
 rw[e];generalize x0*y0=p at *;generalize x1*y0=q at *;generalize x0*y1=r at *;generalize x1*y1=s at *;exact⟨by omega,by omega,by omega,by omega,by omega⟩
theorem Ir(a:Nat){n:Nat}(hn:n≤64):Dh .u64 ((a:Nat):Int) ((2^n-1:Nat):Int)=((a%2^n:Nat):Int):=by
 have e:Dh .u64 ((a:Nat):Int) ((2^n-1:Nat):Int)=Dh .u64 ((a%18446744073709551616:Nat):Int) ((2^n-1:Nat):Int):=by
  unfold Dh
  have:BitVec.ofInt IntKind.u64.bits ((a:Nat):Int)=BitVec.ofInt IntKind.u64.bits ((a%18446744073709551616:Nat):Int):=by
   show BitVec.ofInt 64 ((a:Nat):Int)=BitVec.ofInt 64 ((a%18446744073709551616:Nat):Int);rw[BitVec.ofInt_natCast,BitVec.ofInt_natCast];apply BitVec.eq_of_toNat_eq;simp
  rw[this]
 rw[e,Q7 hn (xU _ (by decide)),Nat.mod_mod_of_dvd _ (Nat.pow_dvd_pow 2 hn:2^n ∣ 2^64)]
theorem aa0(a:Nat):Dh .u64 ((a:Nat):Int) 4294967295=((a%4294967296:Nat):Int):=Ir a (n:=32) (by decide)
theorem Va(a:Nat):Dh .u64 ((a:Nat):Int) 65535=((a%65536:Nat):Int):=Ir a (n:=16) (by decide)
theorem e32:(2:Int)^32=((4294967296:Nat):Int):=rfl
theorem e16:(2:Int)^16=((65536:Nat):Int):=rfl
theorem e48:(2:Int)^48=((281474976710656:Nat):Int):=rfl
theorem iE2{k k':IntKind}{x x' y y':Int}(h:x=x')(h':y=y'):aA [AV.c (Cell.v (Value.int k x)),AV.c (Cell.v (Value.int k' y))]=AV.tup [AV.int k x',AV.int k' y']:=by rw[h,h'];rfl
theorem ibE{k:IntKind}{x x':Int}{y y':Bool}(h:x=x')(h':y=y'):aA [AV.c (Cell.v (Value.int k x)),AV.c (Cell.v (Value.bool y))]=AV.tup [AV.int k x',AV.bool y']:=by rw[h,h'];rfl
def SA(x y:Int):Nat:=x.natAbs*y.natAbs
def NG(x y:Int):Int×Int :=
 let q:Int:=(SA x y/65536:Nat)
 let u:Int:=if SA x y%65536=0 then q else q+1
 if(decide (x<0) != decide (y<0))=true then(-u,-q)else(q,u)
def uP(x y:Int):Int×Int×Bool :=
 if 1208925819614629174706176≤SA x y∨2305843009213693952<SA x y/65536 then(0,0,false)
 else((NG x y).1,(NG x y).2,decide (-2305843009213693952≤(NG x y).1∧(NG x y).2≤2305843009213693952))
theorem MH{x y d u:Int}{o:Bool}(h:uP x y=(d,u,o)):aA [AV.c (Cell.v (Value.int .i64 d)),AV.c (Cell.v (Value.int .i64 u)),AV.c (Cell.v (Value.bool o))]=AV.tup [AV.int .i64 (uP x y).1,AV.int .i64 (uP x y).2.1,AV.bool (uP x y).2.2]:=by rw[h];rfl
theorem aeZ{p:Nat}(h:p/18446744073709551616/65536=0):orI .u64 (IntKind.u64.wrap (((p/18446744073709551616:Nat):Int)*((281474976710656:Nat):Int))) ((p%18446744073709551616/65536:Nat):Int)=((p/65536:Nat):Int):=by
 rw[←XM,wu,PX (by omega),Dy];have:=Yj (n:=48) (a:=p/18446744073709551616) (b:=p%18446744073709551616/65536) (by decide) (by omega) (by omega);have e:(2:Nat)^48=281474976710656:=rfl;rw[e]at this;rw[this];congr 1;omega
theorem aa1{x y:Int}(h:¬(((x.natAbs*y.natAbs/18446744073709551616/65536:Nat):Int))=0):uP x y=(0,0,false):=if_pos (.inl (by unfold SA;generalize x.natAbs*y.natAbs=p at *;omega))
theorem X6{x y:Int}(h:(((x.natAbs*y.natAbs/65536:Nat):Int))>2305843009213693952):uP x y=(0,0,false):=if_pos (.inr (by unfold SA;generalize x.natAbs*y.natAbs=p at *;omega))
theorem acL{x y d u:Int}{o:Bool}(h1:(((x.natAbs*y.natAbs/18446744073709551616/65536:Nat):Int))=0)(h2:¬(((x.natAbs*y.natAbs/65536:Nat):Int))>2305843009213693952)
 (hd:d=(NG x y).1) (hu:u=(NG x y).2) (ho:o=decide (-2305843009213693952≤(NG x y).1∧(NG x y).2≤2305843009213693952)):uP x y=(d,u,o):=by
 subst hd hu ho;exact if_neg (by unfold SA;generalize x.natAbs*y.natAbs=p at *;omega)
theorem Ug{x y:Int}{s z:Bool}(hs:(decide (x<0) != decide (y<0))=s)(hz:decide (x.natAbs*y.natAbs%65536=0)=z):
 NG x y=(if s then(-(if z then((x.natAbs*y.natAbs/65536:Nat):Int)else((x.natAbs*y.natAbs/65536:Nat):Int)+1),-((x.natAbs*y.natAbs/65536:Nat):Int))else(((x.natAbs*y.natAbs/65536:Nat):Int),if z then((x.natAbs*y.natAbs/65536:Nat):Int)else((x.natAbs*y.natAbs/65536:Nat):Int)+1)):=by
 unfold NG SA;rw[hs];subst hz;simp only[decide_eq_true_eq]
theorem w1{q:Int}(h0:0≤q)(h:¬q>2305843009213693952):IntKind.i64.wrap q=q:=bP (by omega) (by omega)
theorem w2{q:Int}(h0:0≤q)(h:¬q>2305843009213693952):IntKind.i64.wrap (q+1)=q+1:=bP (by omega) (by omega)
theorem w3{q:Int}(h0:0≤q)(h:¬q>2305843009213693952):IntKind.i64.wrap (0-q) = -q:=by rw[bP (by omega) (by omega)];omega
theorem w4{q:Int}(h0:0≤q)(h:¬q>2305843009213693952):IntKind.i64.wrap (0-(q+1)) = -(q+1):=by rw[bP (by omega) (by omega)];omega
theorem Pn{x y:Int}{s z o:Bool}{d u:Int}(h1:(((x.natAbs*y.natAbs/18446744073709551616/65536:Nat):Int))=0)(h2:¬(((x.natAbs*y.natAbs/65536:Nat):Int))>2305843009213693952)
 (hs:(decide (x<0) != decide (y<0))=s) (hz:decide (x.natAbs*y.natAbs%65536=0)=z) (hd:d=(if s then -(if z then((x.natAbs*y.natAbs/65536:Nat):Int)else((x.natAbs*y.natAbs/65536:Nat):Int)+1)else((x.natAbs*y.natAbs/65536:Nat):Int)))
 (hu:u=(if s then -((x.natAbs*y.natAbs/65536:Nat):Int)else(if z then((x.natAbs*y.natAbs/65536:Nat):Int)else((x.natAbs*y.natAbs/65536:Nat):Int)+1))) (ho:o=decide (-2305843009213693952≤d∧u≤2305843009213693952)) :
 aA [AV.c (Cell.v (Value.int .i64 d)),AV.c (Cell.v (Value.int .i64 u)),AV.c (Cell.v (Value.bool o))]=AV.tup [AV.int .i64 (uP x y).1,AV.int .i64 (uP x y).2.1,AV.bool (uP x y).2.2]:=by
 have e1:d=(NG x y).1:=by rw[hd,Ug hs hz];cases s<;>rfl
 have e2:u=(NG x y).2:=by rw[hu,Ug hs hz];cases s<;>rfl
 exact MH (acL h1 h2 e1 e2 (by rw[ho,e1,e2]))
@[reducible] def upR(a:Rat):Int:=-(-a).floor
theorem Xm(a:Rat):a.floor≤upR a:=by
 unfold upR;have h1:=Rat.floor_le (a:=a);have h2:=Rat.floor_le (a:=-a);have:((a.floor+(-a).floor:Int):Rat)≤0:=by rw[Rat.intCast_add];grind
 have:=SN.1 (show((a.floor+(-a).floor:Int):Rat)≤((0:Int):Rat)from this);omega
def dS(a:Rat):Option (Int×Int):=SH (a*((65536:Int):Rat)).floor (upR (a*((65536:Int):Rat)))
def vK(a b:Int×Int):Option (Int×Int):=SH (a.1+b.1) (a.2+b.2)
theorem Gt{l h:Int}(o:Option (Int×Int))(e:o=SH l h)(hlh:l≤h):-2305843009213693952≤(o.getD (0,0)).1∧(o.getD (0,0)).1≤(o.getD (0,0)).2∧(o.getD (0,0)).2≤2305843009213693952:=by
 subst e;unfold SH;split
 ·exact⟨by simp;omega,by simp;omega,by simp;omega⟩
 ·exact⟨by simp,by simp,by simp⟩
theorem XE(a:Rat):-2305843009213693952≤((dS a).getD (0,0)).1∧((dS a).getD (0,0)).1≤((dS a).getD (0,0)).2∧((dS a).getD (0,0)).2≤2305843009213693952:=Gt _ rfl (Xm _)
theorem ovE{l h:Int}{b:Bool}{o:Option (Int×Int)}(e1:l=(o.getD (0,0)).1)(e2:h=(o.getD (0,0)).2)(e3:b=o.isSome):
 aA [AV.agg [Cell.v (Value.int .i64 l),Cell.v (Value.int .i64 h)],AV.c (Cell.v (Value.bool b))]=Ov o:=by subst e1 e2 e3;rfl
theorem ovN{o:Option (Int×Int)}(e:o=none):aA [AV.agg [Cell.v (Value.int .i64 0),Cell.v (Value.int .i64 0)],AV.c (Cell.v (Value.bool false))]=Ov o:=by subst e;rfl
theorem TN(a:Rat):sz a.floor≤rz a:=by
 refine dh (ou ?_) (nC a);rw[←Je,qbN _ (by have:=den_pos a;omega)];exact Int.natAbs_ediv_le_natAbs _ _
theorem adK{a:Rat}(h:¬(-9223372036854775808≤(a*((65536:Int):Rat)).floor∧(a*((65536:Int):Rat)).floor≤9223372036854775807)):dS a=none :=
 Gv (by have:=Xm (a*((65536:Int):Rat));omega)
theorem aeX{a:Rat}(h:¬(-9223372036854775808≤-(-(a*((65536:Int):Rat))).floor∧-(-(a*((65536:Int):Rat))).floor≤9223372036854775807)):dS a=none :=
 Gv (by have:=Xm (a*((65536:Int):Rat));unfold upR at *;omega)
theorem szl(n:Int)(h1 : -9223372036854775808≤n)(h2:n≤9223372036854775807):sz n≤3:=kM h1 h2
theorem ahK:rz ((65536:Int):Rat)≤4:=by have:=qH 65536;have:=kM (n:=65536) (by omega) (by omega);omega
theorem Ze{l:Int}:List.foldl (λx y=>if y>x then y else x) l [0]=max l 0:=by
 show(if 0>l then 0 else l)=max l 0;split<;>omega
def rt(n:Int):Int:=if n*65536<0 then 0 else(uI (n*65536).natAbs:Nat)
theorem afK(n:Int):(if n*65536<0 then 0 else((uI (n*65536).natAbs:Nat):Int))=rt n:=rfl
def rtU(n:Int):Int:=if rt n*rt n=n*65536 then rt n else rt n+1
theorem IQ{n:Int}(h:0≤n):0≤rt n∧rt n*rt n≤n*65536∧n*65536<(rt n+1)*(rt n+1):=by
 have⟨h1,h2⟩:=MJ (n*65536).natAbs;have e:(((n*65536).natAbs:Nat):Int)=n*65536:=by omega
 unfold rt;rw[if_neg (by omega)];refine⟨by omega, ?_, ?_⟩
 ·have:=Int.ofNat_le.2 h1;rw[XM]at this;omega
 ·have:=Int.ofNat_lt.2 h2;rw[XM,Int.natCast_add]at this;simpa[e]using this
theorem VU{n:Int}(h:0≤n)(h2:n≤2305843009213693952):0≤rt n∧rt n≤549755813888:=by
 have⟨h0,h1,_⟩:=IQ h;refine⟨h0, ?_⟩;apply Decidable.byContradiction;intro hc;have:549755813889*549755813889≤rt n*rt n:=Int.mul_le_mul (by omega) (by omega) (by decide) h0;omega
theorem WQ{n:Int}(h:0≤n):rt n≤rtU n∧rtU n≤rt n+1∧n*65536≤rtU n*rtU n:=by
 have⟨h0,h1,h2⟩:=IQ h;unfold rtU;split
 ·omega
 ·refine⟨by omega,by omega,by omega⟩
def ny(a:Int×Int):Option (Int×Int):=if a.2<0 then none else SH (rt (max a.1 0)) (rtU a.2)
theorem Oc{l h:Int}(h0:0≤l)(h1:l≤h):rt l≤rt h:=by
 have⟨a0,a1,a2⟩:=IQ h0;have⟨b0,b1,b2⟩:=IQ (Int.le_trans h0 h1);apply Decidable.byContradiction;intro hc;have:(rt h+1)*(rt h+1)≤rt l*rt l:=Int.mul_le_mul (by omega) (by omega) (by omega) a0;omega
theorem afB{l h:Int}(h0:¬h<0)(e:rt h*rt h=h*65536):Ov (SH (rt (max l 0)) (rt h))=Ov (ny (l,h)):=by
 unfold ny rtU;rw[if_neg h0,if_pos e]
theorem afb{l h:Int}(h0:¬h<0)(e:¬rt h*rt h=h*65536):Ov (SH (rt (max l 0)) (rt h+1))=Ov (ny (l,h)):=by
 unfold ny rtU;rw[if_neg h0,if_neg e]
end Go.Sw
