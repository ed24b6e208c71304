/-
  By hand: a struct with a slice of the call's own, in a variable.
  A text cut in two; a variable's slice begins to grow.
  By hand: a slice of the call's own is cut to its first elements.
  What the functions answer, each out of its text by the abstract run.
  What the functions answer, each out of its text by the abstract run.
  What the functions swarfref01.Sub, integer.Sub, swarfref01.Int64, integer.Int64, integer.DivMod answer, each out of its text by the abstract run.
  What the functions swarfref01.GCD, integer.GCD answer, each out of its text by the abstract run.
  What the functions answer, each out of its text by the abstract run.
  What the functions integer.Sqrt answer, each out of its text by the abstract run.
  What the functions rational.unit, rational.whole, rational.exact, rational.reduce answer, each out of its text by the abstract run.
  What the functions rational.FromInt64, rational.Sign, rational.Neg, rational.Mul, rational.Add, rational.Sub, rational.Floor answer, each out of its text by the abstract run.
  What the functions swarfref01.DivMod answer, each out of its text by the abstract run.
  What the functions swarfref02.unit, swarfref02.Of, swarfref02.FromInt64, swarfref02.Frac, swarfref02.Sign, swarfref02.Neg, swarfref02.Mul, swarfref02.Add, swarfref02.Sub, swarfref02.Cmp, swarfref02.Floor answer, each out of its text by the abstract run.
  What the functions swarfref01.Valid answer, each out of its text by the abstract run.
  What the functions swarfref02.Valid answer, each out of its text by the abstract run.
  What the functions swarfref01.Sqrt answer, each out of its text by the abstract run.
  What the functions filter.proper, filter.Neg, filter.abs, filter.Sign, swarfref04.Proper, bits.Mul64, filter.scaled answer, each out of its text by the abstract run.
  What the functions filter.FromRat, filter.Add, filter.root, filter.Sqrt answer, each out of its text by the abstract run.
  What the functions filter.Mul answer, each out of its text by the abstract run.
  What the functions swarfref04.of, swarfref04.up, swarfref04.FromRat, swarfref04.Add, swarfref04.Neg, swarfref04.Sqrt answer, each out of its text by the abstract run.
  What the functions swarfref04.Mul answer, each out of its text by the abstract run.
  What the functions filter.Root, swarfref04.Root answer, each out of its text by the abstract run.
  What the functions filter.times, swarfref04.product, swarfref04.Sign, filter.Side, swarfref04.Side answer, each out of its text by the abstract run.
  What the functions cmp.isNaN[int], cmp.Compare[int], rational.Cmp, rational.Div, rational.Make, rational.Frac, swarfref02.Same, swarfref02.perfect, swarfref02.Make, swarfref02.Div, swarfref02.Sqrt answer, each out of its text by the abstract run.
  Conditions: none.
-/
import Derived.Test.YtbbfmlhkgceabaaGreatM10
set_option linter.all false
namespace Go.Sw
open Go Go.RowKit
set_option linter.unusedVariables false
section
variable {P:Program} [Wld P] [Kp] {N:Nat} {w0:World} {X0:List Nat} {S:List Bx} {M:MM} {e:Env} {b:Bxs} {a:Act} {w:World}
theorem Sta.varo(h:Sta N w0 X0 S M a w e b){i:Nat}{T:TypeId}{us:List Value}{cs:List Cell}(hi:ld i b=none)(hie:mention [i] e=false)(hib:mentionB [i] b=false)(hic:i ∉ obsC cs)(hiN:DL N i)
 (hO:RepO w (bl S++X0) M us cs):Conc N w0 X0 ((i,.ptr i 0) :: e) ((i,.varo cs) :: b) (a.put (some i) (.pointer (some ⟨w.heap.size,0,none⟩))) (w.alloc (.cells us.toArray T)):=by
 have hms:=h.ms.alloc (i:=i) (m:=⟨true,true,some w.heap.size,T,0,0,0,us,none⟩) rfl rfl rfl rfl
 have hext:Ext w (bl S++X0) (w.alloc (.cells us.toArray T)) (bl ((w.heap.size,T,us.toArray) :: S)++X0):=Ext.alloc _ _ _
 have hM:∀c,c≠i→∀m,M c=some m→(M.set i ⟨true,true,some w.heap.size,T,0,0,0,us,none⟩) c=some m:=λc hc m hm=>by
  rw [MM.set_other _ _ hc];exact hm
 refine ⟨_,_,hms,h.x0,by simp [Act.put,h.sz],⟨df_put h.df.1 hiN,h.df.2.ext hext⟩,λt v hv=>?_,λc x hx=>?_⟩
 ·by_cases hti:i=t
  ·subst hti
   rw [ld_cons_self] at hv
   cases hv
   rw [getD_put_same _ h.sz hiN.1]
   exact .ptr (MM.set_same _ _ _) rfl rfl
  ·rw [ld_cons_ne _ _ hti] at hv
   rw [getD_put_other _ hti]
   exact (h.env t v hv).ext hext λj hj m hm=>⟨m,hM j (λe=>by subst e;exact mention_no hie hv j hj (by simp)) m hm,Comp.refl m⟩
 ·by_cases hci:i=c
  ·subst hci
   rw [ld_cons_self] at hx
   cases hx
   exact ⟨_,MM.set_same _ _ _,rfl,rfl,⟨_,rfl⟩,hO.ext hext λd hd mc hmc=>⟨mc,hM d (λe=>by subst e;exact hic hd) mc hmc,Comp.refl mc⟩⟩
  ·rw [ld_cons_ne _ _ hci] at hx
   obtain ⟨m,h1,h2⟩:=h.box c x hx
   exact ⟨m,hM c (λe=>hci e.symm) m h1,h2.ext hext λd hd mc hmc=>⟨mc,hM d (λe=>by subst e;exact mentionB_no hib c x hx d hd (by simp)) mc hmc,Comp.refl mc⟩⟩
end
end Go.Sw
namespace Go.Sw
open Go Go.RowKit
set_option linter.unusedVariables false
def cutC:Nat→Code→Code
 |n+1,.seq x y => .seq x (cutC n y)
 |_,_ => .skip
def restC:Nat→Code→Code
 |n+1,.seq x y=>restC n y
 |_,c=>c
section
variable {P:Program} [Wld P] [Kp] [Gr] {τ:Tab} {N:Nat} {w0:World} {X0:List Nat} [hwo:WOk P w0]
theorem cut_ok(hτ:tabOk P τ=true)(hm:P.follows .mixedOrders=true):∀(n:Nat) (c:Code) {QA:Ex→Env→Bxs→Prop} {Q:Exit→Act→World→Prop} {e:Env} {b:Bxs} {a:Act} {w:World},textOk N (cutC n c)=true→awp (Den P) τ (cutC n c) QA e b→Conc N w0 X0 e b a w →
 (∀e b a w,QA .normal e b→Conc N w0 X0 e b a w→(restC n c).wp P Q a w)→(∀x e b a w,x ≠ .normal→QA x e b→Conc N w0 X0 e b a w→Q x.x a w)→c.wp P Q a w
 |0,c,QA,Q,e,b,a,w,ht,hk,hc,h1,h2=>by
  have hk':QA .normal e b:=by cases c<;>exact hk
  have:=h1 e b a w hk' hc
  cases c<;>exact this
 |n+1,c,QA,Q,e,b,a,w,ht,hk,hc,h1,h2=>by
  cases c with
  |seq x y =>
   simp only [cutC,textOk,Bool.and_eq_true] at ht
   refine c_seq (awp_ok hτ hm x ht.1 hk hc λz e b a w hz hc=>?_)
   cases z with
   |normal=>exact x_tn (cut_ok hτ hm n y ht.2 hz hc h1 h2)
   |ret=>exact x_tr (h2 .ret _ _ _ _ (by intro h;cases h) hz hc)
   |exit id=>exact x_te (h2 (.exit id) _ _ _ _ (by intro h;cases h) hz hc)
  |_=>exact h1 e b a w hk hc
end
section
variable {P:Program} [Wld P] [Kp] {N:Nat} {w0:World} {X0:List Nat} {e:Env} {b:Bxs} {a:Act} {w:World}
end
end Go.Sw
namespace Go.Sw
open Go Go.RowKit
set_option linter.unusedVariables false
section
variable {P:Program} [Wld P] [Kp] {N:Nat} {w0:World} {X0:List Nat} {e:Env} {b:Bxs} {a:Act} {w:World}
theorem RepS.cut{w:World}{X:List Nat}{s:Nat}{us:List (List Value)}{cs:List (List Cell)}(h:RepS w X s us cs)(k:Nat):RepS w X s (us.take k) (cs.take k) :=
 ⟨by simp [h.len],λu hu=>h.sz u (List.mem_of_mem_take hu),λj u c x y=>by
  rw [List.getElem?_take] at x y
  split at x
  ·rename_i hj;rw [if_pos hj] at y;exact h.get j u c x y
  ·cases x⟩
theorem Conc.nilS(h:Conc N w0 X0 e b a w){t s:Nat}(ht:ld t e=some (.c (.v (.slice none 0 0)))):Conc N w0 X0 ((t,.c (.sl s [])) :: e) b a w:=by
 obtain ⟨S,M,h⟩:=h
 refine ⟨S,M,h.ms,h.x0,h.sz,h.df,λc v hv=>?_,h.box⟩
 by_cases htc:t=c
 ·subst htc
  rw [ld_cons_self] at hv
  cases hv
  rw [(h.env t _ ht).v_]
  exact .d (.c (RepC.nil _ _ _))
 ·rw [ld_cons_ne _ _ htc] at hv
  exact h.env c v hv
theorem Conc.shrink(h:Conc N w0 X0 e b a w){t i T s k d:Nat}{es:List (List Cell)}{e':Env}(ht:ld t e=some (.gs i es.length))(hb:ld i b=some (.grow T s es))(hk:k≤es.length)(hd:DL N d)(hs:SubE e' e)(hm:mention [i] e'=false)(hmb:mentionB [i] b=false):
 ∃A cap,a.tmps.getD t undef=.slice A es.length cap∧es.length≤cap∧Conc N w0 X0 ((d,.gs i k) :: e') (up i (.grow T s (es.take k)) b) (a.put (some d) (.slice A k cap)) w:=by
 obtain ⟨S,M,h⟩:=h
 obtain ⟨m,h1,q1,q2,q3,⟨q4,q4'⟩,q5,q6⟩:=h.box i _ hb
 have hu:a.tmps.getD t undef=hdr m:=by
  have hv:=h.env t _ ht
  generalize a.tmps.getD t undef=u at hv
  cases hv with
  |gs hm' hv' hle h' hu'=>rw [h1] at hm';cases hm';exact h' q5
  |d hd=>cases hd
 have hcap:es.length≤m.cap:=by
  rcases q6 with ⟨_,q,_⟩|⟨g,uss,rest,_,_,_,_,_,q⟩
  ·rw [q];exact Nat.zero_le _
  ·omega
 refine ⟨m.g.map λg=>⟨g,0,none⟩,m.cap,by rw [hu,← q5];rfl,hcap,S,M.set i { m with n:=k },⟨h.ms.st,h.ms.gh.set (λx hx=>⟨m,h1,hx⟩) (λ_ _ _ _ _ _ _ h=>h) (λ_ _ _ h=>h) (λg' k1 k2 => .inl ⟨m,h1,k1,k2⟩),λc mc hc hco gc hgc=>?_,λc c' mc mc' gc k1 k2 k3 k4 k5 k6=>?_⟩,h.x0,by simp [Act.put,h.sz],⟨df_put h.df.1 hd,h.df.2⟩,λc v hv=>?_,λc x hx=>?_⟩
 ·by_cases hci:c=i
  ·subst hci;rw [MM.set_same] at hc;cases hc;exact h.ms.inS c m h1 hco gc hgc
  ·rw [MM.set_other _ _ hci] at hc;exact h.ms.inS c mc hc hco gc hgc
 ·by_cases hci:c=i
  ·subst hci
   rw [MM.set_same] at k1;cases k1
   by_cases hci':c'=c
   ·exact hci'.symm
   ·rw [MM.set_other _ _ hci'] at k2
    exact h.ms.inj c c' m mc' gc h1 k2 k3 k4 k5 k6
  ·rw [MM.set_other _ _ hci] at k1
   by_cases hci':c'=i
   ·subst hci'
    rw [MM.set_same] at k2;cases k2
    exact h.ms.inj c c' mc m gc k1 h1 k3 k4 k5 k6
   ·rw [MM.set_other _ _ hci'] at k2
    exact h.ms.inj c c' mc mc' gc k1 k2 k3 k4 k5 k6
 ·by_cases hdc:d=c
  ·subst hdc
   rw [ld_cons_self] at hv
   cases hv
   rw [getD_put_same _ h.sz hd.1]
   exact .gs (MM.set_same _ _ _) q1 (Nat.le_refl _) (λ_=>rfl) ⟨_,_,rfl⟩
  ·rw [ld_cons_ne _ _ hdc] at hv
   rw [getD_put_other _ hdc]
   refine (h.env c v (hs.get hv)).ext (Ext.refl _ _) λj hj mj hmj=>⟨mj, ?_,Comp.refl mj⟩
   have hne:j≠i:=λe=>by subst e;exact mention_no hm hv j hj (by simp)
   rw [MM.set_other _ _ hne];exact hmj
 ·rw [ld_up] at hx
  by_cases hci:c=i
  ·subst hci
   rw [if_pos rfl] at hx
   cases hx
   refine ⟨_,MM.set_same _ _ _,q1,q2,q3,⟨q4,q4'⟩,by simp;omega, ?_⟩
   rcases q6 with ⟨z1,z2,z3⟩|⟨g,uss,rest,z1,z2,z3,z4,z5,z6⟩
   ·exact .inl ⟨z1,by rw [z2,List.take_nil],z3⟩
   ·refine .inr ⟨g,uss.take k,(uss.drop k).flatten++rest,z1, ?_,z3.cut k,z4,z5,by show k≤m.cap;omega⟩
    show m.us=_
    rw [z2,← List.append_assoc,← List.flatten_append,List.take_append_drop]
  ·rw [if_neg hci] at hx
   obtain ⟨mc,k1,k2⟩:=h.box c x hx
   refine ⟨mc,by rw [MM.set_other _ _ hci];exact k1,k2.ext (Ext.refl _ _) λj hj mj hmj=>⟨mj, ?_,Comp.refl mj⟩⟩
   have hne:j≠i:=λe=>by subst e;exact mentionB_no hmb c x hx j hj (by simp)
   rw [MM.set_other _ _ hne];exact hmj
end
end Go.Sw
namespace Go.Proofs.YtbbfmlhkgceabaaGreat
open Go Go.RowKit Go.Sw
set_option linter.unusedVariables false
set_option maxRecDepth 100000
set_option maxHeartbeats 8000000
instance (priority:=2000) ri_trimc(y R:Nat):DenI Tryz.prog 140 [.c (.sl 1 ([cellsOf (.c (.v (u32 y)))]++(lim R).map λx=>[.v (u32 x)]))] (y<1000000000) (.c (lmc (lim (y+1000000000*R)))):=⟨λhp=>by rw [← trimz_cons y R hp];exact (inferInstance:DenI Tryz.prog 140 [.c (lmc ([y]++lim R))] True (.c (lmc (trimz ([y]++lim R))))).den trivial⟩
instance ri_by9(a:List Nat):DenI Tryz.prog 182 [.c (lmc a),.int .u32 (IntKind.u32.wrap 999999999)] (a.length≤1000000000000∧Lb a) (.c (lmc (lim (val a*999999999)))):=⟨λhp=>by rw [show IntKind.u32.wrap 999999999=((999999999:Nat):Int) by decide];exact (inferInstance:DenI Tryz.prog 182 [.c (lmc a),.int .u32 ((999999999:Nat):Int)] _ _).den ⟨hp.1,hp.2,by decide⟩⟩
theorem len18{l:List Nat}(h:CanL l)(h2:l.length≤2):val l<1000000000000000000:=lim_len_two (by rw [h.eq];exact h2)
theorem quo64{m n:Nat}(h:m<18446744073709551616):IntKind.u64.wrap ((m:Int).tdiv (n:Int))=((m / n:Nat):Int):=by
 rw [td9 (by omega),dvc];exact wu64n (by have:=Nat.div_le_self m n;omega)
theorem qsc{n:Nat}:IntKind.u64.wrap ((1000000000:Int).tdiv ((n:Int)+1))=((1000000000 / (n+1):Nat):Int):=quo64 (m:=1000000000) (n:=n+1) (by decide)
theorem quoE{m n:Nat}(h:m<18446744073709551616):IntKind.u64.wrap ((m:Int) / (n:Int))=((m / n:Nat):Int):=by rw [dvc];exact wu64n (by have:=Nat.div_le_self m n;omega)
theorem zqE{n:Int}:IntKind.u64.wrap ((0:Int) / n)=((0:Nat):Int):=by rw [Int.zero_ediv];rfl
theorem rem64{m n:Nat}:(m:Int).tmod (n:Int)=((m % n:Nat):Int):=by
 rw [tm9 (by omega),mdc]
def tabp:Tab:=(2000000000,.flag) :: tab
theorem tabp_ok:tabOk Tryz.prog tabp=true:=by kernel_rfl
set_option maxHeartbeats 4000000 in
theorem pparts(a b:List Nat)(h1:a.length≤1000000000)(h2:b.length≤1000000000)(hca:CanL a)(hcb:CanL b)(hpos:0<val b):Den Tryz.prog 137 [.c (lmc a),.c (lmc b)] (.tup [.c (lmc (lim (val a / val b))),.c (lmc (lim (val a % val b)))]):=by
 have hbn:0<b.length:=by cases b with|nil=>simp [val] at hpos|cons _ _=>simp
 obtain ⟨sc,hsc⟩:∃sc,sc=1000000000 / (b.getD (b.length-1) 0+1):=⟨_,rfl⟩
 have hscB:=scale_lt hcb rfl hbn hsc
 obtain ⟨hsc0,_,hvn,hvtop,hvP⟩:=scale_law (v:=lim (val b*sc)) hcb rfl hbn hsc (CanL.lim _) (by rw [val_lim])
 rw [← hvn] at hvtop
 have hlu:=scaled_len (a:=val a) hscB
 rw [hca.eq] at hlu
 have hbt:=hcb.1.getD (b.length-1)
 have hvt:=(lb_lim (val b*sc)).getD ((lim (val b*sc)).length-1)
 refine Den.of ⟨by kernel_rfl,λw X vs ho hX hl hR=>?_⟩ rfl
 haveI:WOk Tryz.prog w:=.of ho
 refine enter Tryz.func137 rfl rfl (by rw [hl];rfl) λac hF=>?_
 have hc:=args_conc (N:=173) hX hl hR hF
 refine cut_ok (τ:=tabp) tabp_ok mixed_ 8 _ (QA:=λz e bx=>match z with|.normal=>SubE ([(8,.int .u32 (sc:Nat)),(9,.c (lmc (lim (val b*sc)))),(10,.int .u64 ((lim (val b*sc)).getD ((lim (val b*sc)).length-1) 0:Nat)),(11,.c (.v (.slice none 0 0))),(12,.gs 64 (a.length+1)),(13,.c (lmc (lim (val a*sc))))]) e∧SubB ([(64,.grow 158 1 ((List.replicate (a.length+1) 0).map λx=>[.v (u32 x)]))]) bx|z=>endO tabp Tryz.f137 [none,none] (.tup [.c (lmc (lim (val a / val b))),.c (lmc (lim (val a % val b)))]) z e bx) (by kernel_rfl) ?_ hc (λe bx a0 w1 hq hc2=>?_) (λx e b a w hx hq hc=>?_)
 case refine_3=>cases x with|normal=>exact absurd rfl hx|_=>exact endO_ok tabp_ok hq hc
 case refine_1 =>
  clear hc hF hR hl hX
  all_goals (repeat' ((try (conv=>whnf));first
   |refine call_0 ?_
   |refine call_i ?_ ?_
   |(with_reducible refine onB_t ?_)
   |(with_reducible refine onB_f ?_)
   |(with_reducible refine onB_d (λ_=>?_) (λ_=>?_))
   |(with_reducible refine onB_n (λ_=>?_) (λ_=>?_))
   |refine OnB.mk (λ_=>?_) (λ_=>?_)
   |refine obl_i ?_ ?_
   |refine Drw.mk (by kernel_rfl) ?_
   |refine mks_i ?_ ?_
   |refine slp_i ?_ ?_
   |(with_reducible refine elem_u ?_ ?_)
   |(with_reducible refine elem_0 ?_)
   |(with_reducible refine elem_1 ?_)
   |refine Ends.mk ?_))
  all_goals (try refine Pr.mk ?_)
  all_goals (try simp only [List.length_map,tn1] at *)
  all_goals (try (have ha18:=len18 hca (by omega);have hb18:=len18 hcb (by omega)))
  all_goals (try ((conv=>whnf);simp (disch:=omega) only [quo64,rem64,wu64,wi64,wu32,qsc,← hsc]))
  all_goals (repeat' ((try (conv=>whnf));first
   |refine call_0 ?_
   |refine call_i ?_ ?_
   |(with_reducible refine onB_t ?_)
   |(with_reducible refine onB_f ?_)
   |(with_reducible refine onB_d (λ_=>?_) (λ_=>?_))
   |(with_reducible refine onB_n (λ_=>?_) (λ_=>?_))
   |refine OnB.mk (λ_=>?_) (λ_=>?_)
   |refine obl_i ?_ ?_
   |refine Drw.mk (by kernel_rfl) ?_
   |refine mks_i ?_ ?_
   |refine slp_i ?_ ?_
   |(with_reducible refine elem_u ?_ ?_)
   |(with_reducible refine elem_0 ?_)
   |(with_reducible refine elem_1 ?_)
   |refine Ends.mk ?_))
  all_goals (try refine Pr.mk ?_)
  all_goals (try ((conv=>whnf);simp (disch:=omega) only [quo64,rem64,wu64,wi64,wu32,qsc,← hsc]))
  all_goals (repeat' ((try (conv=>whnf));first
   |refine call_0 ?_
   |refine call_i ?_ ?_
   |(with_reducible refine onB_t ?_)
   |(with_reducible refine onB_f ?_)
   |(with_reducible refine onB_d (λ_=>?_) (λ_=>?_))
   |(with_reducible refine onB_n (λ_=>?_) (λ_=>?_))
   |refine OnB.mk (λ_=>?_) (λ_=>?_)
   |refine obl_i ?_ ?_
   |refine Drw.mk (by kernel_rfl) ?_
   |refine mks_i ?_ ?_
   |refine slp_i ?_ ?_
   |(with_reducible refine elem_u ?_ ?_)
   |(with_reducible refine elem_0 ?_)
   |(with_reducible refine elem_1 ?_)
   |refine Ends.mk ?_))
  all_goals (try refine Pr.mk ?_)
  all_goals (try simp only [List.length_map,tn1] at *)
  all_goals (try ((conv=>whnf);simp (disch:=omega) only [quo64,rem64,wu64,wi64,wu32,qsc,← hsc]))
  all_goals (repeat' ((try (conv=>whnf));first
   |refine call_0 ?_
   |refine call_i ?_ ?_
   |(with_reducible refine onB_t ?_)
   |(with_reducible refine onB_f ?_)
   |(with_reducible refine onB_d (λ_=>?_) (λ_=>?_))
   |(with_reducible refine onB_n (λ_=>?_) (λ_=>?_))
   |refine OnB.mk (λ_=>?_) (λ_=>?_)
   |refine obl_i ?_ ?_
   |refine Drw.mk (by kernel_rfl) ?_
   |refine mks_i ?_ ?_
   |refine slp_i ?_ ?_
   |(with_reducible refine elem_u ?_ ?_)
   |(with_reducible refine elem_0 ?_)
   |(with_reducible refine elem_1 ?_)
   |refine Ends.mk ?_))
  all_goals (try refine Pr.mk ?_)
  all_goals (try simp (disch:=omega) only [List.length_map,List.length_take,Int.toNat_natCast,List.length_replicate,wi64,wu32,wu64,minl,tn1,tn2,tm9,td9] at *)
  all_goals (repeat' ((try (conv=>whnf));first
   |refine call_0 ?_
   |refine call_i ?_ ?_
   |(with_reducible refine onB_t ?_)
   |(with_reducible refine onB_f ?_)
   |(with_reducible refine onB_d (λ_=>?_) (λ_=>?_))
   |(with_reducible refine onB_n (λ_=>?_) (λ_=>?_))
   |refine OnB.mk (λ_=>?_) (λ_=>?_)
   |refine obl_i ?_ ?_
   |refine Drw.mk (by kernel_rfl) ?_
   |refine mks_i ?_ ?_
   |refine slp_i ?_ ?_
   |(with_reducible refine elem_u ?_ ?_)
   |(with_reducible refine elem_0 ?_)
   |(with_reducible refine elem_1 ?_)
   |refine Ends.mk ?_))
  all_goals (try refine Pr.mk ?_)
  all_goals (try simp (disch:=omega) only [List.length_map,List.length_take,Int.toNat_natCast,List.length_replicate,wi64,wu32,wu64,minl,tn1,tn2,tm9,td9] at *)
  all_goals first
   |((conv=>whnf);refine ⟨⟨rfl,rfl, ?_,rfl,rfl,rfl,trivial⟩,⟨zerosU _ _,trivial⟩⟩;first|rfl|exact iS (wu64n (by omega)))
   |(refine ⟨by omega,by omega,by omega⟩)
   |omega
   |rfl
   |exact ⟨by omega,hca.1,by omega⟩
   |exact ⟨by omega,hcb.1,by omega⟩
   |(have:=Nat.div_le_self (val a) (val b);omega)
   |(have:=Nat.mod_le (val a) (val b);omega)
   |exact ⟨by omega,hcb.1,hscB⟩
   |exact ⟨by omega,hca.1,hscB⟩
   |skip
 obtain ⟨he,hb⟩:=hq
 replace hc:=(hc2.sub he hb).nilS (t:=11) (s:=1) rfl
 clear he hb hc2 hF hR hl hX
 replace hc:=hc.sub (e:=[(8,.int .u32 (sc:Nat)),(9,.c (lmc (lim (val b*sc)))),(10,.int .u64 ((lim (val b*sc)).getD ((lim (val b*sc)).length-1) 0:Nat)),(11,.c (lmc (lim 0))),(12,.gs 64 (a.length+1)),(13,.c (lmc (lim (val a*sc))))]) (b:=[(64,.grow 158 1 ((List.replicate (a.length+1) 0).map λx=>[.v (u32 x)]))]) ⟨rfl,rfl,rfl,(by rw [lim_zero];rfl),rfl,rfl,trivial⟩ ⟨rfl,trivial⟩
 refine c_seq (c_reg ?_)
 refine wp_split 3 (aops_pre (τ:=tabp) tabp_ok (k:=λe bx=>SubE ((68,.gs 64 (a.length+1)) :: (70,.int .i64 ((lim (val a*sc)).length:Nat)) :: [(8,.int .u32 (sc:Nat)),(9,.c (lmc (lim (val b*sc)))),(10,.int .u64 ((lim (val b*sc)).getD ((lim (val b*sc)).length-1) 0:Nat)),(11,.c (lmc (lim 0))),(12,.gs 64 (a.length+1)),(13,.c (lmc (lim (val a*sc))))]) e∧SubB ([(64,.grow 158 1 ((List.replicate (a.length+1) 0).map λx=>[.v (u32 x)]))]) bx) ?_ (by kernel_rfl) ?_ hc)
 case refine_2 =>
  clear hc
  all_goals (repeat' ((try (conv=>whnf));first
   |refine call_0 ?_
   |refine call_i ?_ ?_
   |(with_reducible refine onB_t ?_)
   |(with_reducible refine onB_f ?_)
   |(with_reducible refine onB_d (λ_=>?_) (λ_=>?_))
   |(with_reducible refine onB_n (λ_=>?_) (λ_=>?_))
   |refine OnB.mk (λ_=>?_) (λ_=>?_)
   |refine obl_i ?_ ?_
   |refine Drw.mk (by kernel_rfl) ?_
   |refine mks_i ?_ ?_
   |refine slp_i ?_ ?_
   |(with_reducible refine elem_u ?_ ?_)
   |(with_reducible refine elem_0 ?_)
   |(with_reducible refine elem_1 ?_)
   |refine Ends.mk ?_))
  all_goals (try refine Pr.mk ?_)
  exact ⟨⟨rfl,(by show some (AV.int .i64 _)=some (AV.int .i64 _);rw [List.length_map]),rfl,rfl,rfl,rfl,rfl,rfl,trivial⟩,⟨rfl,trivial⟩⟩
 clear hc
 rintro e bx a2 w2 ⟨he,hb⟩ hc
 replace hc:=hc.sub he hb
 clear he hb
 have hle:(lim (val a*sc)).length≤((List.replicate (a.length+1) 0).map λx=>[Cell.v (u32 x)]).length:=by rw [List.length_map,List.length_replicate];exact hlu
 obtain ⟨A,cp,hv,hcp,hc2⟩:=hc.shrink (t:=68) (i:=64) (d:=71) (e':=[(8,.int .u32 (sc:Nat)),(9,.c (lmc (lim (val b*sc)))),(10,.int .u64 ((lim (val b*sc)).getD ((lim (val b*sc)).length-1) 0:Nat)),(11,.c (lmc (lim 0))),(13,.c (lmc (lim (val a*sc))))]) (by rw [List.length_map,List.length_replicate];rfl) rfl hle ⟨by decide,rfl⟩ ⟨rfl,rfl,rfl,rfl,rfl,trivial⟩ rfl rfl
 have hFm:Frm 173 a2 [(68,.slice A ((List.replicate (a.length+1) 0).map λx=>[Cell.v (u32 x)]).length cp),(70,.int .i64 ((lim (val a*sc)).length:Nat))]:=(hc.frm.cons (hc.get (t:=70) rfl (by simp))).cons hv
 obtain ⟨_,hsl,_⟩:=sliceT (tab_at tabp_ok (t:=28) rfl)
 refine wp1 rfl (ex_slice_h hsl (hFm.ev rfl) (hFm.ev rfl) rfl (by omega)) ?_
 clear hc hFm hv
 refine aops_ok tabp_ok (k:=λe bx=>SubE ([(8,.int .u32 (sc:Nat)),(9,.c (lmc (lim (val b*sc)))),(10,.int .u64 ((lim (val b*sc)).getD ((lim (val b*sc)).length-1) 0:Nat)),(11,.c (lmc (lim 0))),(12,.gs 64 (lim (val a*sc)).length),(13,.c (lmc (lim (val a*sc))))]) e∧SubB ([(64,.grow 158 1 ((List.replicate (lim (val a*sc)).length 0).map λx=>[.v (u32 x)]))]) bx) ?_ (by kernel_rfl) ?_ hc2
 case refine_2 =>
  clear hc2
  all_goals (repeat' ((try (conv=>whnf));first
   |refine call_0 ?_
   |refine call_i ?_ ?_
   |(with_reducible refine onB_t ?_)
   |(with_reducible refine onB_f ?_)
   |(with_reducible refine onB_d (λ_=>?_) (λ_=>?_))
   |(with_reducible refine onB_n (λ_=>?_) (λ_=>?_))
   |refine OnB.mk (λ_=>?_) (λ_=>?_)
   |refine obl_i ?_ ?_
   |refine Drw.mk (by kernel_rfl) ?_
   |refine mks_i ?_ ?_
   |refine slp_i ?_ ?_
   |(with_reducible refine elem_u ?_ ?_)
   |(with_reducible refine elem_0 ?_)
   |(with_reducible refine elem_1 ?_)
   |refine Ends.mk ?_))
  all_goals (try refine Pr.mk ?_)
  exact ⟨⟨rfl,rfl,rfl,rfl,rfl,rfl,trivial⟩,⟨(by show some (Bk.grow _ _ _)=some (Bk.grow _ _ _);rw [← List.map_take,List.take_replicate,Nat.min_eq_left hlu]),trivial⟩⟩
 clear hc2
 rintro e bx a3 w3 ⟨he,hb⟩ hc
 replace hc:=hc.sub he hb
 clear he hb
 refine x_tn ?_
 refine awp_ok (τ:=tabp) tabp_ok mixed_ _ (QA:=endO tabp Tryz.f137 [none,none] (.tup [.c (lmc (lim (val a / val b))),.c (lmc (lim (val a % val b)))])) (by kernel_rfl) ?_ hc (λx e b a w' hx hc'=>endO_ok tabp_ok hx hc')
 clear hc ho
 all_goals first
  |((conv=>whnf);refine Sw.Loop.inv (α:=List Nat × Nat × Nat) (λx=>[(8,.int .u32 (sc:Nat)),(9,.c (lmc (lim (val b*sc)))),(10,.int .u64 ((lim (val b*sc)).getD ((lim (val b*sc)).length-1) 0:Nat)),(11,.c (lmc (lim x.2.1))),(12,.gs 64 x.1.length),(13,.c (lmc (lim (val a*sc)))),(14,.int .i64 (((x.2.2:Nat):Int)-1))]) (λx=>[(64,.grow 158 1 (x.1.map λx=>[.v (u32 x)]))]) (λx=>x.2.2≤(lim (val a*sc)).length∧x.1.length=(lim (val a*sc)).length∧Lb x.1∧val ((lim (val a*sc)).drop x.2.2)=(val b*sc)*val (x.1.drop x.2.2)+x.2.1∧x.2.1<(val b*sc)) (λx=>x.2.2) (List.replicate (lim (val a*sc)).length 0,0,(lim (val a*sc)).length) ?_ ?_ ?_ (λx hx=>?_))
  |skip
 all_goals (repeat' ((try (conv=>whnf));first
  |refine call_0 ?_
  |refine call_i ?_ ?_
  |(with_reducible refine onB_t ?_)
  |(with_reducible refine onB_f ?_)
  |(with_reducible refine onB_d (λ_=>?_) (λ_=>?_))
  |(with_reducible refine onB_n (λ_=>?_) (λ_=>?_))
  |refine OnB.mk (λ_=>?_) (λ_=>?_)
  |refine obl_i ?_ ?_
  |refine Drw.mk (by kernel_rfl) ?_
  |refine mks_i ?_ ?_
  |refine slp_i ?_ ?_
  |(with_reducible refine elem_u ?_ ?_)
  |(with_reducible refine elem_0 ?_)
  |(with_reducible refine elem_1 ?_)
  |refine Ends.mk ?_))
 all_goals (try refine Pr.mk ?_)
 all_goals (try simp only [List.length_map,tn1] at *)
 all_goals (try (have hRl:=lim_le_of_le (Nat.le_of_lt hx.2.2.2.2);have hyu:=(lb_lim (val a*sc)).getD (x.2.2-1);have hR2:=parts_head hyu hx.2.2.2.2;have hR2l:=lim_len_mul hR2;have hra:=(lb_lim ((lim (val a*sc)).getD (x.2.2-1) 0+1000000000*x.2.1)).getD (lim (val b*sc)).length;have hrb:=(lb_lim ((lim (val a*sc)).getD (x.2.2-1) 0+1000000000*x.2.1)).getD ((lim (val b*sc)).length-1);obtain ⟨hdge,hdh⟩:=digit_ge (V:=(val b*sc)) (n:=(lim (val b*sc)).length) rfl rfl (by omega) (top:=(lim (val b*sc)).getD ((lim (val b*sc)).length-1) 0) rfl hR2 (by omega)))
 all_goals (repeat' ((try (conv=>whnf));first
  |refine call_0 ?_
  |refine call_i ?_ ?_
  |(with_reducible refine onB_t ?_)
  |(with_reducible refine onB_f ?_)
  |(with_reducible refine onB_d (λ_=>?_) (λ_=>?_))
  |(with_reducible refine onB_n (λ_=>?_) (λ_=>?_))
  |refine OnB.mk (λ_=>?_) (λ_=>?_)
  |refine obl_i ?_ ?_
  |refine Drw.mk (by kernel_rfl) ?_
  |refine mks_i ?_ ?_
  |refine slp_i ?_ ?_
  |(with_reducible refine elem_u ?_ ?_)
  |(with_reducible refine elem_0 ?_)
  |(with_reducible refine elem_1 ?_)
  |refine Ends.mk ?_))
 all_goals (try refine Pr.mk ?_)
 all_goals (try simp (disch:=omega) only [List.length_map,List.length_take,Int.toNat_natCast,List.length_replicate,wi64,wu32,wu64,minl,tn1,tn2,tm9,td9] at *)
 all_goals (repeat' ((try (conv=>whnf));first
  |refine call_0 ?_
  |refine call_i ?_ ?_
  |(with_reducible refine onB_t ?_)
  |(with_reducible refine onB_f ?_)
  |(with_reducible refine onB_d (λ_=>?_) (λ_=>?_))
  |(with_reducible refine onB_n (λ_=>?_) (λ_=>?_))
  |refine OnB.mk (λ_=>?_) (λ_=>?_)
  |refine obl_i ?_ ?_
  |refine Drw.mk (by kernel_rfl) ?_
  |refine mks_i ?_ ?_
  |refine slp_i ?_ ?_
  |(with_reducible refine elem_u ?_ ?_)
  |(with_reducible refine elem_0 ?_)
  |(with_reducible refine elem_1 ?_)
  |refine Ends.mk ?_))
 all_goals (try refine Pr.mk ?_)
 all_goals (try simp only [List.length_map,val_lim] at *)
 all_goals first
  |omega
  |((with_reducible show (_:Nat)=_);rfl)
  |((with_reducible show (_:Nat)≤_);simp only [List.length_append,List.length_map,List.length_cons,List.length_nil];omega)
  |((with_reducible show SubE _ _);exact ⟨rfl,rfl,rfl,rfl,rfl,rfl,rfl,trivial⟩)
  |((with_reducible show SubB _ _);exact ⟨rfl,trivial⟩)
  |exact ⟨Nat.le_refl _,by simp,lb_zeros _,by rw [val_drop_all (Nat.le_refl _),val_drop_all (by simp)];simp,Nat.mul_pos hpos hsc0⟩
  |exact ⟨by omega,lb_lim _,by omega⟩
  |exact ⟨by omega,lb_lim _⟩
  |exact ⟨CanL.lim _,CanL.lim _⟩
  |skip
 all_goals (try simp (disch:=omega) only [Int.zero_add,quoE,zqE,pk9] at *)
 all_goals (try ((conv=>whnf);simp (disch:=omega) only [wu64,wu32,wu32n,pk9,quoE,zqE,Int.zero_add,val_lim]))
 all_goals (repeat' ((try (conv=>whnf));first
  |refine call_0 ?_
  |refine call_i ?_ ?_
  |(with_reducible refine onB_t ?_)
  |(with_reducible refine onB_f ?_)
  |(with_reducible refine onB_d (λ_=>?_) (λ_=>?_))
  |(with_reducible refine onB_n (λ_=>?_) (λ_=>?_))
  |refine OnB.mk (λ_=>?_) (λ_=>?_)
  |refine obl_i ?_ ?_
  |refine Drw.mk (by kernel_rfl) ?_
  |refine mks_i ?_ ?_
  |refine slp_i ?_ ?_
  |(with_reducible refine elem_u ?_ ?_)
  |(with_reducible refine elem_0 ?_)
  |(with_reducible refine elem_1 ?_)
  |refine Ends.mk ?_))
 all_goals (try refine Pr.mk ?_)
 all_goals (try simp only [List.length_map,val_lim] at *)
 all_goals first
  |omega
  |((with_reducible show (_:Nat)=_);rfl)
  |((with_reducible show (_:Nat)≤_);simp only [List.length_append,List.length_map,List.length_cons,List.length_nil];omega)
  |((with_reducible show SubE _ _);exact ⟨rfl,rfl,rfl,rfl,rfl,rfl,rfl,trivial⟩)
  |((with_reducible show SubB _ _);exact ⟨rfl,trivial⟩)
  |exact ⟨Nat.le_refl _,by simp,lb_zeros _,by rw [val_drop_all (Nat.le_refl _),val_drop_all (by simp)];simp,Nat.mul_pos hpos hsc0⟩
  |exact ⟨by omega,lb_lim _,by omega⟩
  |exact ⟨by omega,lb_lim _⟩
  |exact ⟨CanL.lim _,CanL.lim _⟩
  |skip
 all_goals (try simp (disch:=omega) only [Int.zero_add,quoE,zqE,pk9] at *)
 all_goals (try ((conv=>whnf);simp (disch:=omega) only [wu64,wu32,wu32n,pk9,quoE,zqE,Int.zero_add,val_lim]))
 all_goals (repeat' ((try (conv=>whnf));first
  |refine call_0 ?_
  |refine call_i ?_ ?_
  |(with_reducible refine onB_t ?_)
  |(with_reducible refine onB_f ?_)
  |(with_reducible refine onB_d (λ_=>?_) (λ_=>?_))
  |(with_reducible refine onB_n (λ_=>?_) (λ_=>?_))
  |refine OnB.mk (λ_=>?_) (λ_=>?_)
  |refine obl_i ?_ ?_
  |refine Drw.mk (by kernel_rfl) ?_
  |refine mks_i ?_ ?_
  |refine slp_i ?_ ?_
  |(with_reducible refine elem_u ?_ ?_)
  |(with_reducible refine elem_0 ?_)
  |(with_reducible refine elem_1 ?_)
  |refine Ends.mk ?_))
 all_goals (try refine Pr.mk ?_)
 all_goals (try simp only [List.length_map,val_lim] at *)
 all_goals first
  |omega
  |((with_reducible show (_:Nat)=_);rfl)
  |((with_reducible show (_:Nat)≤_);simp only [List.length_append,List.length_map,List.length_cons,List.length_nil];omega)
  |((with_reducible show SubE _ _);exact ⟨rfl,rfl,rfl,rfl,rfl,rfl,rfl,trivial⟩)
  |((with_reducible show SubB _ _);exact ⟨rfl,trivial⟩)
  |exact ⟨Nat.le_refl _,by simp,lb_zeros _,by rw [val_drop_all (Nat.le_refl _),val_drop_all (by simp)];simp,Nat.mul_pos hpos hsc0⟩
  |exact ⟨by omega,lb_lim _,by omega⟩
  |exact ⟨by omega,lb_lim _⟩
  |exact ⟨CanL.lim _,CanL.lim _⟩
  |skip
 all_goals (try simp (disch:=omega) only [Int.zero_add,quoE,zqE,pk9] at *)
 all_goals (try ((conv=>whnf);simp (disch:=omega) only [wu64,wu32,wu32n,pk9,quoE,zqE,Int.zero_add,val_lim]))
 all_goals (repeat' ((try (conv=>whnf));first
  |refine call_0 ?_
  |refine call_i ?_ ?_
  |(with_reducible refine onB_t ?_)
  |(with_reducible refine onB_f ?_)
  |(with_reducible refine onB_d (λ_=>?_) (λ_=>?_))
  |(with_reducible refine onB_n (λ_=>?_) (λ_=>?_))
  |refine OnB.mk (λ_=>?_) (λ_=>?_)
  |refine obl_i ?_ ?_
  |refine Drw.mk (by kernel_rfl) ?_
  |refine mks_i ?_ ?_
  |refine slp_i ?_ ?_
  |(with_reducible refine elem_u ?_ ?_)
  |(with_reducible refine elem_0 ?_)
  |(with_reducible refine elem_1 ?_)
  |refine Ends.mk ?_))
 all_goals (try refine Pr.mk ?_)
 all_goals (try simp only [List.length_map,val_lim] at *)
 all_goals first
  |omega
  |((with_reducible show (_:Nat)=_);rfl)
  |((with_reducible show (_:Nat)≤_);simp only [List.length_append,List.length_map,List.length_cons,List.length_nil];omega)
  |((with_reducible show SubE _ _);exact ⟨rfl,rfl,rfl,rfl,rfl,rfl,rfl,trivial⟩)
  |((with_reducible show SubB _ _);exact ⟨rfl,trivial⟩)
  |exact ⟨Nat.le_refl _,by simp,lb_zeros _,by rw [val_drop_all (Nat.le_refl _),val_drop_all (by simp)];simp,Nat.mul_pos hpos hsc0⟩
  |exact ⟨by omega,lb_lim _,by omega⟩
  |exact ⟨by omega,lb_lim _⟩
  |exact ⟨CanL.lim _,CanL.lim _⟩
  |skip
 all_goals first
  |((conv=>whnf);refine Sw.Loop.inv (α:=Nat) (λy=>[(8,.int .u32 (sc:Nat)),(9,.c (lmc (lim (val b*sc)))),(10,.int .u64 ((lim (val b*sc)).getD ((lim (val b*sc)).length-1) 0:Nat)),(11,.c (lmc (lim ((lim (val a*sc)).getD (x.2.2-1) 0+1000000000*x.2.1)))),(12,.gs 64 x.1.length),(13,.c (lmc (lim (val a*sc)))),(14,.int .i64 (((x.2.2:Nat):Int)-1)),(16,.int .u64 (y:Nat)),(17,.c (lmc (lim ((val b*sc)*y))))]) (λy=>[(64,.grow 158 1 (x.1.map λx=>[.v (u32 x)]))]) (λy=>y≤999999999∧((lim (val a*sc)).getD (x.2.2-1) 0+1000000000*x.2.1)<(y+1)*(val b*sc)) (λy=>y) 999999999 ?_ ?_ ?_ (λy hy=>?_);exact ⟨rfl,rfl,rfl,rfl,rfl,rfl,rfl,rfl,rfl,trivial⟩;exact ⟨rfl,trivial⟩;exact ⟨Nat.le_refl _,digit_cap hR2⟩)
  |((conv=>whnf);refine Sw.Loop.inv (α:=Nat) (λy=>[(8,.int .u32 (sc:Nat)),(9,.c (lmc (lim (val b*sc)))),(10,.int .u64 ((lim (val b*sc)).getD ((lim (val b*sc)).length-1) 0:Nat)),(11,.c (lmc (lim ((lim (val a*sc)).getD (x.2.2-1) 0+1000000000*x.2.1)))),(12,.gs 64 x.1.length),(13,.c (lmc (lim (val a*sc)))),(14,.int .i64 (((x.2.2:Nat):Int)-1)),(16,.int .u64 (y:Nat)),(17,.c (lmc (lim ((val b*sc)*y))))]) (λy=>[(64,.grow 158 1 (x.1.map λx=>[.v (u32 x)]))]) (λy=>y≤999999999∧((lim (val a*sc)).getD (x.2.2-1) 0+1000000000*x.2.1)<(y+1)*(val b*sc)) (λy=>y) (((lim ((lim (val a*sc)).getD (x.2.2-1) 0+1000000000*x.2.1)).getD (lim (val b*sc)).length 0*1000000000+(lim ((lim (val a*sc)).getD (x.2.2-1) 0+1000000000*x.2.1)).getD ((lim (val b*sc)).length-1) 0) / (lim (val b*sc)).getD ((lim (val b*sc)).length-1) 0) ?_ ?_ ?_ (λy hy=>?_);exact ⟨rfl,rfl,rfl,rfl,rfl,rfl,rfl,rfl,rfl,trivial⟩;exact ⟨rfl,trivial⟩;exact ⟨by omega,hdge⟩)
  |(have hge0:=getD_none (l:=(lim ((lim (val a*sc)).getD (x.2.2-1) 0+1000000000*x.2.1))) (k:=(lim (val b*sc)).length) (by omega);rw [hge0,Nat.zero_mul,Nat.zero_add] at hdge;(conv=>whnf);refine Sw.Loop.inv (α:=Nat) (λy=>[(8,.int .u32 (sc:Nat)),(9,.c (lmc (lim (val b*sc)))),(10,.int .u64 ((lim (val b*sc)).getD ((lim (val b*sc)).length-1) 0:Nat)),(11,.c (lmc (lim ((lim (val a*sc)).getD (x.2.2-1) 0+1000000000*x.2.1)))),(12,.gs 64 x.1.length),(13,.c (lmc (lim (val a*sc)))),(14,.int .i64 (((x.2.2:Nat):Int)-1)),(16,.int .u64 (y:Nat)),(17,.c (lmc (lim ((val b*sc)*y))))]) (λy=>[(64,.grow 158 1 (x.1.map λx=>[.v (u32 x)]))]) (λy=>y≤999999999∧((lim (val a*sc)).getD (x.2.2-1) 0+1000000000*x.2.1)<(y+1)*(val b*sc)) (λy=>y) ((lim ((lim (val a*sc)).getD (x.2.2-1) 0+1000000000*x.2.1)).getD ((lim (val b*sc)).length-1) 0 / (lim (val b*sc)).getD ((lim (val b*sc)).length-1) 0) ?_ ?_ ?_ (λy hy=>?_);exact ⟨rfl,rfl,rfl,rfl,rfl,rfl,rfl,rfl,rfl,trivial⟩;exact ⟨rfl,trivial⟩;exact ⟨by omega,hdge⟩)
  |(have hge0:=getD_none (l:=(lim ((lim (val a*sc)).getD (x.2.2-1) 0+1000000000*x.2.1))) (k:=(lim (val b*sc)).length) (by omega);have hge1:=getD_none (l:=(lim ((lim (val a*sc)).getD (x.2.2-1) 0+1000000000*x.2.1))) (k:=(lim (val b*sc)).length-1) (by omega);rw [hge0,hge1,Nat.zero_mul,Nat.zero_add,Nat.zero_div] at hdge;(conv=>whnf);refine Sw.Loop.inv (α:=Nat) (λy=>[(8,.int .u32 (sc:Nat)),(9,.c (lmc (lim (val b*sc)))),(10,.int .u64 ((lim (val b*sc)).getD ((lim (val b*sc)).length-1) 0:Nat)),(11,.c (lmc (lim ((lim (val a*sc)).getD (x.2.2-1) 0+1000000000*x.2.1)))),(12,.gs 64 x.1.length),(13,.c (lmc (lim (val a*sc)))),(14,.int .i64 (((x.2.2:Nat):Int)-1)),(16,.int .u64 (y:Nat)),(17,.c (lmc (lim ((val b*sc)*y))))]) (λy=>[(64,.grow 158 1 (x.1.map λx=>[.v (u32 x)]))]) (λy=>y≤999999999∧((lim (val a*sc)).getD (x.2.2-1) 0+1000000000*x.2.1)<(y+1)*(val b*sc)) (λy=>y) 0 ?_ ?_ ?_ (λy hy=>?_);exact ⟨rfl,rfl,rfl,rfl,rfl,rfl,rfl,rfl,rfl,trivial⟩;exact ⟨rfl,trivial⟩;exact ⟨by omega,hdge⟩)
  |skip
 all_goals (repeat' ((try (conv=>whnf));first
  |refine call_0 ?_
  |refine call_i ?_ ?_
  |(with_reducible refine onB_t ?_)
  |(with_reducible refine onB_f ?_)
  |(with_reducible refine onB_d (λ_=>?_) (λ_=>?_))
  |(with_reducible refine onB_n (λ_=>?_) (λ_=>?_))
  |refine OnB.mk (λ_=>?_) (λ_=>?_)
  |refine obl_i ?_ ?_
  |refine Drw.mk (by kernel_rfl) ?_
  |refine mks_i ?_ ?_
  |refine slp_i ?_ ?_
  |(with_reducible refine elem_u ?_ ?_)
  |(with_reducible refine elem_0 ?_)
  |(with_reducible refine elem_1 ?_)
  |refine Ends.mk ?_))
 all_goals (try refine Pr.mk ?_)
 all_goals (try simp only [List.length_map,val_lim] at *)
 all_goals first
  |omega
  |((with_reducible show (_:Nat)=_);rfl)
  |((with_reducible show (_:Nat)≤_);simp only [List.length_append,List.length_map,List.length_cons,List.length_nil];omega)
  |((with_reducible show SubE _ _);exact ⟨rfl,rfl,rfl,rfl,rfl,rfl,rfl,trivial⟩)
  |((with_reducible show SubB _ _);exact ⟨rfl,trivial⟩)
  |exact ⟨Nat.le_refl _,by simp,lb_zeros _,by rw [val_drop_all (Nat.le_refl _),val_drop_all (by simp)];simp,Nat.mul_pos hpos hsc0⟩
  |exact ⟨by omega,lb_lim _,by omega⟩
  |exact ⟨by omega,lb_lim _⟩
  |exact ⟨CanL.lim _,CanL.lim _⟩
  |skip
 all_goals first
  |((with_reducible show _∧_);have hgt:=cmpN_gt0.1 (by assumption);have hy0:0<y:=(by rcases Nat.eq_zero_or_pos y with h0|h0;(rw [h0,Nat.mul_zero] at hgt;omega);exact h0);have hVle:(val b*sc)≤(val b*sc)*y:=Nat.le_mul_of_pos_right _ hy0;have hsl:=scaled_len (a:=(val b*sc)) (s:=y) (by omega);exact ⟨by omega,by omega,lb_lim _,lb_lim _,lim_le_of_le hVle,hVle⟩)
  |((with_reducible show _∧_);have hle2:(val b*sc)*y≤((lim (val a*sc)).getD (x.2.2-1) 0+1000000000*x.2.1):=Nat.not_lt.1 (mt cmpN_gt0.2 (by assumption));have hll:=lim_le_of_le hle2;exact ⟨by omega,by omega,lb_lim _,lb_lim _,hll,hle2⟩)
  |(have hgt:=cmpN_gt0.1 (by assumption);have hy0:0<y:=(by rcases Nat.eq_zero_or_pos y with h0|h0;(rw [h0,Nat.mul_zero] at hgt;omega);exact h0);have hVle:(val b*sc)≤(val b*sc)*y:=Nat.le_mul_of_pos_right _ hy0;have hsl:=scaled_len (a:=(val b*sc)) (s:=y) (by omega);(conv=>whnf);exact ⟨y-1,⟨⟨rfl,rfl,rfl,rfl,rfl,rfl,rfl,iS (by (try simp (disch:=omega) only [wu32,wu64,wi64,tm9,td9,tn3])<;>omega),(by show some (AV.c (lmc _))=some (AV.c (lmc _));rw [parts_dec hy0]),trivial⟩,⟨rfl,trivial⟩,⟨by omega,by rw [Nat.sub_add_cancel hy0];exact Nat.lt_of_lt_of_eq hgt (Nat.mul_comm _ _)⟩,(by show y-1<y;omega)⟩⟩)
  |(have hle2:(val b*sc)*y≤((lim (val a*sc)).getD (x.2.2-1) 0+1000000000*x.2.1):=Nat.not_lt.1 (mt cmpN_gt0.2 (by assumption));have hll:=lim_le_of_le hle2;obtain ⟨i1,i2,i3,i4,i5⟩:=hx;(conv=>whnf);exact ⟨(x.1.set (x.2.2-1) y,((lim (val a*sc)).getD (x.2.2-1) 0+1000000000*x.2.1)-(val b*sc)*y,x.2.2-1),⟨⟨rfl,rfl,rfl,rfl,gsE (by simp),rfl,dec64m (by omega) (by omega),trivial⟩,⟨setU (by omega) (by (try simp (disch:=omega) only [wu32,wu64,wi64,tm9,td9,tn3])<;>omega),trivial⟩,⟨by show x.2.2-1≤_;omega,by simp only [List.length_set];exact i2,lb_set i3 (by omega),parts_step (by omega) i1 (by omega) i4 rfl hle2,parts_lt hy.2 hle2⟩,(by show x.2.2-1<x.2.2;omega)⟩⟩)
  |skip
 all_goals first
  |((conv=>whnf);refine Sw.Loop.inv (α:=List Nat × Nat × Nat) (λz=>[(8,.int .u32 (sc:Nat)),(11,.c (lmc (lim x.2.1))),(12,.gs 64 x.1.length),(18,.int .u64 (z.2.1:Nat)),(19,.gs 141 z.1.length),(20,.int .i64 (((z.2.2:Nat):Int)-1))]) (λz=>[(64,.grow 158 1 (x.1.map λx=>[.v (u32 x)])),(141,.grow 158 1 (z.1.map λx=>[.v (u32 x)]))]) (λz=>z.2.2≤(lim x.2.1).length∧z.1.length=(lim x.2.1).length∧Lb z.1∧z.2.1<sc∧val ((lim x.2.1).drop z.2.2)=sc*val (z.1.drop z.2.2)+z.2.1) (λz=>z.2.2) (List.replicate (lim x.2.1).length 0,0,(lim x.2.1).length) ?_ ?_ ?_ (λz hz=>?_))
  |skip
 all_goals (repeat' ((try (conv=>whnf));first
  |refine call_0 ?_
  |refine call_i ?_ ?_
  |(with_reducible refine onB_t ?_)
  |(with_reducible refine onB_f ?_)
  |(with_reducible refine onB_d (λ_=>?_) (λ_=>?_))
  |(with_reducible refine onB_n (λ_=>?_) (λ_=>?_))
  |refine OnB.mk (λ_=>?_) (λ_=>?_)
  |refine obl_i ?_ ?_
  |refine Drw.mk (by kernel_rfl) ?_
  |refine mks_i ?_ ?_
  |refine slp_i ?_ ?_
  |(with_reducible refine elem_u ?_ ?_)
  |(with_reducible refine elem_0 ?_)
  |(with_reducible refine elem_1 ?_)
  |refine Ends.mk ?_))
 all_goals (try refine Pr.mk ?_)
 all_goals (try simp only [List.length_map,val_lim] at *)
 all_goals first
  |omega
  |((with_reducible show (_:Nat)=_);rfl)
  |((with_reducible show (_:Nat)≤_);simp only [List.length_append,List.length_map,List.length_cons,List.length_nil];omega)
  |((with_reducible show SubE _ _);exact ⟨rfl,rfl,rfl,rfl,rfl,rfl,rfl,trivial⟩)
  |((with_reducible show SubB _ _);exact ⟨rfl,trivial⟩)
  |exact ⟨Nat.le_refl _,by simp,lb_zeros _,by rw [val_drop_all (Nat.le_refl _),val_drop_all (by simp)];simp,Nat.mul_pos hpos hsc0⟩
  |exact ⟨by omega,lb_lim _,by omega⟩
  |exact ⟨by omega,lb_lim _⟩
  |exact ⟨CanL.lim _,CanL.lim _⟩
  |skip
 all_goals (try simp (disch:=omega) only [tn1,wi64,wu64] at *)
 all_goals first
  |((with_reducible show SubE _ _);exact ⟨rfl,rfl,rfl,rfl,gsE (by simp),rfl,trivial⟩)
  |((with_reducible show SubB _ _);exact ⟨rfl,zerosU _ _,trivial⟩)
  |exact ⟨Nat.le_refl _,by simp,lb_zeros _,hsc0,by rw [val_drop_all (Nat.le_refl _),val_drop_all (by simp)];simp⟩
  |omega
  |((with_reducible show packA _=_);have q1:=hx.2.2.2.1;have q2:=hz.2.2.2.2;rw [show x.2.2=0 by omega,List.drop_zero,List.drop_zero,val_lim] at q1;rw [show z.2.2=0 by omega,List.drop_zero,List.drop_zero,val_lim] at q2;obtain ⟨e1,e2⟩:=parts_end hsc0 q1 hx.2.2.2.2 q2 hz.2.2.2.1;rw [← lim_val _ hx.2.2.1,← lim_val _ hz.2.2.1,e1,e2];rfl)
  |(have gz:=(lb_lim x.2.1).getD (z.2.2-1);have c4:=Int.natCast_nonneg ((z.2.1*1000000000+(lim x.2.1).getD (z.2.2-1) 0) / sc);obtain ⟨b1,b2,b3⟩:=byword_lt hz.2.2.2.1 hscB gz (t:=_) rfl;obtain ⟨h1z,h2z,h3z,h4z,h5z⟩:=hz;(conv=>whnf);exact ⟨(z.1.set (z.2.2-1) ((z.2.1*1000000000+(lim x.2.1).getD (z.2.2-1) 0) / sc),(z.2.1*1000000000+(lim x.2.1).getD (z.2.2-1) 0) % sc,z.2.2-1),⟨⟨rfl,rfl,rfl,iS (by (try simp (disch:=omega) only [wu32,wu64,wi64,tm9,td9,tn1,tn3,tz0,tz1,pk9,dvc,mdc])<;>omega),gsE (by simp),dec64m (by omega) (by omega),trivial⟩,⟨rfl,setU (by omega) (by (try simp (disch:=omega) only [wu32,wu64,wi64,tm9,td9,tn1,tn3,tz0,tz1,pk9,dvc,mdc])<;>omega),trivial⟩,⟨by show z.2.2-1≤_;omega,by simp only [List.length_set];exact h2z,lb_set h3z b1,b2,byword_step (by omega) h1z (by omega) h5z rfl rfl⟩,(by show z.2.2-1<z.2.2;omega)⟩⟩)
  |skip
instance(a b:List Nat):DenI Tryz.prog 149 [.c (lmc a),.c (lmc b)] (a.length≤100000000000∧b.length≤100000000000∧Lb a∧Lb b∧0<val b) (.tup [.c (lmc (pad (dql a b) (val a / val b))),.c (lmc (pad (drl a b) (val a % val b)))]):=⟨λhp=>den2 (by kernel_rfl) λw X u v hX hu hv=>(integer_divide_ok hX hu.ul hv.ul hp.1 hp.2.1 hp.2.2.1 hp.2.2.2.1 hp.2.2.2.2).mono λe w' ⟨u,he,⟨qs,rs,r0,r1,h1,h2,h3,h4,h5,h6,h7,h8,h9⟩,hb⟩=>⟨u,he,by subst h1;obtain ⟨e1,e2⟩:=div_pads h4 h5 h6 h7 h8 h9;rw [← e1,← e2];exact tup2 (.c h2.rep) (.c h3.rep),hb⟩⟩
instance(a b:List Nat):DenI Tryz.prog 137 [.c (lmc a),.c (lmc b)] (a.length≤1000000000∧b.length≤1000000000∧CanL a∧CanL b∧0<val b) (.tup [.c (lmc (lim (val a / val b))),.c (lmc (lim (val a % val b)))]):=⟨λhp=>pparts a b hp.1 hp.2.1 hp.2.2.1 hp.2.2.2.1 hp.2.2.2.2⟩
instance rh_sub(a b:Int):DenI Tryz.prog 139 [Z a,Z b] (sz a≤1000000000∧sz b≤1000000000) (Z (a-b)):=⟨λhp=>by
 refine den_of (τ:=tab) tab_ok mixed_ Tryz.func139 rfl (by kernel_rfl) (by kernel_rfl) (by kernel_rfl) ?_
 repeat' ((try (conv=>whnf));first
  |refine call_0 ?_
  |refine call_i ?_ ?_
  |(with_reducible refine onB_t ?_)
  |(with_reducible refine onB_f ?_)
  |(with_reducible refine onB_d (λ_=>?_) (λ_=>?_))
  |(with_reducible refine onB_n (λ_=>?_) (λ_=>?_))
  |refine OnB.mk (λ_=>?_) (λ_=>?_)
  |refine obl_i ?_ ?_
  |refine Drw.mk (by kernel_rfl) ?_
  |refine mks_i ?_ ?_
  |refine slp_i ?_ ?_
  |(with_reducible refine elem_u ?_ ?_)
  |(with_reducible refine elem_0 ?_)
  |(with_reducible refine elem_1 ?_)
  |refine Ends.mk ?_)
 all_goals (try refine Pr.mk ?_)
 all_goals first
  |with_reducible exact hp.2
  |(rw [sz_neg];exact hp)
  |(refine zsE ?_;omega)
  |skip⟩
instance ih_sub(a b:Int):DenI Tryz.prog 178 [Z a,Z b] (sz a≤1000000000∧sz b≤1000000000) (Z (a-b)):=⟨λhp=>by
 refine den_of (τ:=tab) tab_ok mixed_ Tryz.func178 rfl (by kernel_rfl) (by kernel_rfl) (by kernel_rfl) ?_
 repeat' ((try (conv=>whnf));first
  |refine call_0 ?_
  |refine call_i ?_ ?_
  |(with_reducible refine onB_t ?_)
  |(with_reducible refine onB_f ?_)
  |(with_reducible refine onB_d (λ_=>?_) (λ_=>?_))
  |(with_reducible refine onB_n (λ_=>?_) (λ_=>?_))
  |refine OnB.mk (λ_=>?_) (λ_=>?_)
  |refine obl_i ?_ ?_
  |refine Drw.mk (by kernel_rfl) ?_
  |refine mks_i ?_ ?_
  |refine slp_i ?_ ?_
  |(with_reducible refine elem_u ?_ ?_)
  |(with_reducible refine elem_0 ?_)
  |(with_reducible refine elem_1 ?_)
  |refine Ends.mk ?_)
 all_goals (try refine Pr.mk ?_)
 all_goals (try ((conv=>whnf);first|rw [subc_1 (by assumption)]|rw [subc_2 (by assumption)]))
 all_goals (repeat' ((try (conv=>whnf));first
  |refine call_0 ?_
  |refine call_i ?_ ?_
  |(with_reducible refine onB_t ?_)
  |(with_reducible refine onB_f ?_)
  |(with_reducible refine onB_d (λ_=>?_) (λ_=>?_))
  |(with_reducible refine onB_n (λ_=>?_) (λ_=>?_))
  |refine OnB.mk (λ_=>?_) (λ_=>?_)
  |refine obl_i ?_ ?_
  |refine Drw.mk (by kernel_rfl) ?_
  |refine mks_i ?_ ?_
  |refine slp_i ?_ ?_
  |(with_reducible refine elem_u ?_ ?_)
  |(with_reducible refine elem_0 ?_)
  |(with_reducible refine elem_1 ?_)
  |refine Ends.mk ?_))
 all_goals (try refine Pr.mk ?_)
 all_goals first
  |(rw [sz_neg];exact hp)
  |(refine zsE ?_;omega)
  |skip⟩
instance ih_i64(a:Int):DenI Tryz.prog 69 [Z a] (True) (.tup [.int .i64 (if -9223372036854775808≤a∧a≤9223372036854775807 then a else 0),.bool (decide (-9223372036854775808≤a∧a≤9223372036854775807))]):=⟨λhp=>by
 refine den_of (τ:=tab) tab_ok mixed_ Tryz.func69 rfl (by kernel_rfl) (by kernel_rfl) (by kernel_rfl) ?_
 repeat' ((try (conv=>whnf));first
  |refine call_0 ?_
  |refine call_i ?_ ?_
  |(with_reducible refine onB_t ?_)
  |(with_reducible refine onB_f ?_)
  |(with_reducible refine onB_d (λ_=>?_) (λ_=>?_))
  |(with_reducible refine onB_n (λ_=>?_) (λ_=>?_))
  |refine OnB.mk (λ_=>?_) (λ_=>?_)
  |refine obl_i ?_ ?_
  |refine Drw.mk (by kernel_rfl) ?_
  |refine mks_i ?_ ?_
  |refine slp_i ?_ ?_
  |(with_reducible refine elem_u ?_ ?_)
  |(with_reducible refine elem_0 ?_)
  |(with_reducible refine elem_1 ?_)
  |refine Ends.mk ?_)
 all_goals (try refine Pr.mk ?_)
 all_goals first
  |omega
  |with_reducible exact i64_1 (by assumption)
  |with_reducible exact i64_2 (by assumption)
  |(have hb:=i64_b (by assumption) (by assumption);have hq:=i64_p hb;((conv=>whnf);refine Sw.Loop.inv (α:=Nat) (λx=>[(1,.ptr 1 0),(4,.int .u64 (val ((lim a.natAbs).drop x):Nat)),(5,.int .i64 ((x:Int)-1))]) (λx=>[(1,.var [zs a,zl a])]) (λx=>x≤(lim a.natAbs).length) (λx=>x) ((lim a.natAbs).length) ?_ ?_ ?_ (λx hx=>?_)))
  |skip
 all_goals (repeat' ((try (conv=>whnf));first
  |refine call_0 ?_
  |refine call_i ?_ ?_
  |(with_reducible refine onB_t ?_)
  |(with_reducible refine onB_f ?_)
  |(with_reducible refine onB_d (λ_=>?_) (λ_=>?_))
  |(with_reducible refine onB_n (λ_=>?_) (λ_=>?_))
  |refine OnB.mk (λ_=>?_) (λ_=>?_)
  |refine obl_i ?_ ?_
  |refine Drw.mk (by kernel_rfl) ?_
  |refine mks_i ?_ ?_
  |refine slp_i ?_ ?_
  |(with_reducible refine elem_u ?_ ?_)
  |(with_reducible refine elem_0 ?_)
  |(with_reducible refine elem_1 ?_)
  |refine Ends.mk ?_))
 all_goals (try refine Pr.mk ?_)
 all_goals first|(show SubE _ _;repeat' (first|exact trivial|refine And.intro ?_ ?_))|(show SubB _ _;repeat' (first|exact trivial|refine And.intro ?_ ?_))|skip
 all_goals (try rfl)
 all_goals (try simp (disch:=omega) only [List.length_map,List.length_take,Int.toNat_natCast,List.length_replicate,wi64,wu32,wu64,minl,tn1,tn2,tm9,td9] at *)
 all_goals first
  |omega
  |rfl
  |(rw [val_drop_all (Nat.le_refl _)];rfl)
  |exact dec64' (by omega)
  |(refine i64_3 hb ?_;rw [show x=0 by omega,List.drop_zero,val_lim];first|exact neg_wrap_u (by omega) (by omega)|exact pos_wrap (by omega) (by omega))
  |(have hd:=val_drop (l:=lim a.natAbs) (k:=x) (by omega) hx;have hle:=val_drop_le (lim a.natAbs) (x-1);have hg:=(lb_lim a.natAbs).getD (x-1);((conv=>whnf);exact ⟨x-1,⟨⟨rfl,iS (by (try simp (disch:=omega) only [wu32,wu64,wi64,tm9,td9,tn1,tn3,tz0,tz1,pk9,dvc,mdc])<;>omega),dec64m (by omega) (by omega),trivial⟩,⟨rfl,trivial⟩,(by omega),by show x-1<x;omega⟩⟩))
  |skip⟩
instance ih_divmod(a b:Int):DenI Tryz.prog 124 [Z a,Z b] (sz a≤1000000000∧sz b≤1000000000) (.tup [Z (a.fdiv b),Z (if b=0 then 0 else a.fmod b),.int .i64 (if b=0 then 6 else 0)]):=⟨λhp=>by
 refine den_of (τ:=tab) tab_ok mixed_ Tryz.func124 rfl (by kernel_rfl) (by kernel_rfl) (by kernel_rfl) ?_
 repeat' ((try (conv=>whnf));first
  |refine call_0 ?_
  |refine call_i ?_ ?_
  |(with_reducible refine onB_t ?_)
  |(with_reducible refine onB_f ?_)
  |(with_reducible refine onB_d (λ_=>?_) (λ_=>?_))
  |(with_reducible refine onB_n (λ_=>?_) (λ_=>?_))
  |refine OnB.mk (λ_=>?_) (λ_=>?_)
  |refine obl_i ?_ ?_
  |refine Drw.mk (by kernel_rfl) ?_
  |refine mks_i ?_ ?_
  |refine slp_i ?_ ?_
  |(with_reducible refine elem_u ?_ ?_)
  |(with_reducible refine elem_0 ?_)
  |(with_reducible refine elem_1 ?_)
  |refine Ends.mk ?_)
 all_goals (try refine Pr.mk ?_)
 all_goals (try simp (disch:=assumption) only [val_lim,natAbs_sgnv,neg_sgnv,cast_len0,cast_len1,List.length_map,dqI,drI] at *)
 all_goals (try simp (disch:=assumption) only [val_lim,natAbs_sgnv,neg_sgnv,cast_len0,cast_len1,List.length_map,dqI,drI] at *)
 all_goals first
  |omega
  |(have hb0:b=0:=(by omega);subst hb0;exact rdm_zero a)
  |with_reducible exact lb_pad _ _
  |with_reducible exact dv_pre hp.1 hp.2 (by assumption)
  |with_reducible exact ⟨sz_q hp.1 _,sz_o⟩
  |with_reducible exact ⟨sz_r hp.1 _,hp.2⟩
  |with_reducible exact rdm_turn (by assumption) (by assumption) (turn_sg (r:=a.natAbs % b.natAbs) (by omega) (by assumption))
  |with_reducible exact rdm_keep (by assumption) (.inr (keep_sg (r:=a.natAbs % b.natAbs) (by omega) (by assumption)))
  |with_reducible exact rdm_keep (by assumption) (.inl (by omega))
  |skip⟩
instance rh_gcd(a b:Int):DenI Tryz.prog 87 [Z a,Z b] (sz a≤1000000000∧sz b≤1000000000) (Z ((Nat.gcd a.natAbs b.natAbs:Nat):Int)):=⟨λhp=>by
 refine den_of (τ:=tab) tab_ok mixed_ Tryz.func87 rfl (by kernel_rfl) (by kernel_rfl) (by kernel_rfl) ?_
 repeat' ((try (conv=>whnf));first
  |refine call_0 ?_
  |refine call_i ?_ ?_
  |(with_reducible refine onB_t ?_)
  |(with_reducible refine onB_f ?_)
  |(with_reducible refine onB_d (λ_=>?_) (λ_=>?_))
  |(with_reducible refine onB_n (λ_=>?_) (λ_=>?_))
  |refine OnB.mk (λ_=>?_) (λ_=>?_)
  |refine obl_i ?_ ?_
  |refine Drw.mk (by kernel_rfl) ?_
  |refine mks_i ?_ ?_
  |refine slp_i ?_ ?_
  |(with_reducible refine elem_u ?_ ?_)
  |(with_reducible refine elem_0 ?_)
  |(with_reducible refine elem_1 ?_)
  |refine Ends.mk ?_)
 all_goals (try refine Pr.mk ?_)
 all_goals first
  |((conv=>whnf);refine Sw.Loop.inv (α:=Nat × Nat) (λx=>[(4,.ptr 4 0),(5,.c (lmc (lim x.1))),(6,.c (lmc (lim x.2)))]) (λx=>[(4,.var [.v (.bool false),.sl 1 []])]) (λx=>Nat.gcd x.1 x.2=Nat.gcd a.natAbs b.natAbs∧(lim x.1).length≤1000000000∧(lim x.2).length≤1000000000) (λx=>x.2) (a.natAbs,b.natAbs) ?_ ?_ ?_ (λx hx=>?_))
  |skip
 all_goals (repeat' ((try (conv=>whnf));first
  |refine call_0 ?_
  |refine call_i ?_ ?_
  |(with_reducible refine onB_t ?_)
  |(with_reducible refine onB_f ?_)
  |(with_reducible refine onB_d (λ_=>?_) (λ_=>?_))
  |(with_reducible refine onB_n (λ_=>?_) (λ_=>?_))
  |refine OnB.mk (λ_=>?_) (λ_=>?_)
  |refine obl_i ?_ ?_
  |refine Drw.mk (by kernel_rfl) ?_
  |refine mks_i ?_ ?_
  |refine slp_i ?_ ?_
  |(with_reducible refine elem_u ?_ ?_)
  |(with_reducible refine elem_0 ?_)
  |(with_reducible refine elem_1 ?_)
  |refine Ends.mk ?_))
 all_goals (try refine Pr.mk ?_)
 all_goals first
  |((conv=>whnf);refine Sw.Loop.inv (α:=Nat × Nat) (λy=>[(4,.ptr 4 0),(9,.int .u64 (y.1:Nat)),(10,.int .u64 (y.2:Nat))]) (λy=>[(4,.var [.v (.bool false),.sl 1 []])]) (λy=>y.1<1000000000000000000∧y.2<1000000000000000000∧Nat.gcd y.1 y.2=Nat.gcd a.natAbs b.natAbs) (λy=>y.2) x ?_ ?_ ?_ (λy hy=>?_))
  |skip
 all_goals (repeat' ((try (conv=>whnf));first
  |refine call_0 ?_
  |refine call_i ?_ ?_
  |(with_reducible refine onB_t ?_)
  |(with_reducible refine onB_f ?_)
  |(with_reducible refine onB_d (λ_=>?_) (λ_=>?_))
  |(with_reducible refine onB_n (λ_=>?_) (λ_=>?_))
  |refine OnB.mk (λ_=>?_) (λ_=>?_)
  |refine obl_i ?_ ?_
  |refine Drw.mk (by kernel_rfl) ?_
  |refine mks_i ?_ ?_
  |refine slp_i ?_ ?_
  |(with_reducible refine elem_u ?_ ?_)
  |(with_reducible refine elem_0 ?_)
  |(with_reducible refine elem_1 ?_)
  |refine Ends.mk ?_))
 all_goals (try refine Pr.mk ?_)
 all_goals first|(show SubE _ _;repeat' (first|exact trivial|refine And.intro ?_ ?_))|(show SubB _ _;repeat' (first|exact trivial|refine And.intro ?_ ?_))|skip
 all_goals (try rfl)
 all_goals (try simp only [List.length_map] at *)
 all_goals first
  |with_reducible exact lb_lim _
  |with_reducible exact gv
  |with_reducible exact gpre hx.2.1 hx.2.2 (by omega)
  |with_reducible exact gshort (by omega)
  |(have hz:=lim_len_zero (n:=x.2);exact gshort (by omega))
  |exact ⟨trivial,hp.1,hp.2⟩
  |exact gv
  |(have hz:=lim_len_zero (n:=x.2);with_reducible exact gend (by omega) hx.1 (val_lim _))
  |with_reducible exact gend (by omega) hy.2.2 (val_lim _)
  |exact ⟨glt (by omega),glt (by omega),hx.1⟩
  |(have h3:x.1 % x.2<x.2:=Nat.mod_lt _ (by have hz:=lim_len_zero (n:=x.2);omega);((conv=>whnf);exact ⟨(x.2,x.1 % x.2),⟨⟨rfl,rfl,gmod,trivial⟩,⟨rfl,trivial⟩,⟨gcd_turn hx.1 rfl,hx.2.2,Nat.le_trans (lim_le_of_le (Nat.le_of_lt h3)) hx.2.2⟩,h3⟩⟩))
  |(have h1:=hy.1;have h2:=hy.2.1;have h3:y.1 % y.2<y.2:=Nat.mod_lt _ (by omega);((conv=>whnf);exact ⟨(y.2,y.1 % y.2),⟨⟨rfl,rfl,gm2,trivial⟩,⟨rfl,trivial⟩,⟨by show y.2<_;omega,by show y.1 % y.2<_;omega,gcd_turn hy.2.2 rfl⟩,h3⟩⟩))
  |omega
  |skip⟩
instance ih_gcd(a b:Int):DenI Tryz.prog 101 [Z a,Z b] (sz a≤1000000000∧sz b≤1000000000) (Z ((Nat.gcd a.natAbs b.natAbs:Nat):Int)):=⟨λhp=>by
 refine den_of (τ:=tab) tab_ok mixed_ Tryz.func101 rfl (by kernel_rfl) (by kernel_rfl) (by kernel_rfl) ?_
 repeat' ((try (conv=>whnf));first
  |refine call_0 ?_
  |refine call_i ?_ ?_
  |(with_reducible refine onB_t ?_)
  |(with_reducible refine onB_f ?_)
  |(with_reducible refine onB_d (λ_=>?_) (λ_=>?_))
  |(with_reducible refine onB_n (λ_=>?_) (λ_=>?_))
  |refine OnB.mk (λ_=>?_) (λ_=>?_)
  |refine obl_i ?_ ?_
  |refine Drw.mk (by kernel_rfl) ?_
  |refine mks_i ?_ ?_
  |refine slp_i ?_ ?_
  |(with_reducible refine elem_u ?_ ?_)
  |(with_reducible refine elem_0 ?_)
  |(with_reducible refine elem_1 ?_)
  |refine Ends.mk ?_)
 all_goals (try refine Pr.mk ?_)
 all_goals first
  |((conv=>whnf);refine Sw.Loop.inv (α:=Nat × Nat) (λx=>[(4,.ptr 4 0),(5,.ptr 5 0),(6,.ptr 6 0)]) (λx=>[(4,.var [.v (.bool false),.sl 1 []]),(5,.var [zs (x.1:Nat),zl (x.1:Nat)]),(6,.var [zs (x.2:Nat),zl (x.2:Nat)])]) (λx=>Nat.gcd x.1 x.2=Nat.gcd a.natAbs b.natAbs∧sz ((x.1:Nat):Int)≤1000000000∧sz ((x.2:Nat):Int)≤1000000000) (λx=>x.2) (a.natAbs,b.natAbs) ?_ ?_ ?_ (λx hx=>?_))
  |skip
 all_goals (repeat' ((try (conv=>whnf));first
  |refine call_0 ?_
  |refine call_i ?_ ?_
  |(with_reducible refine onB_t ?_)
  |(with_reducible refine onB_f ?_)
  |(with_reducible refine onB_d (λ_=>?_) (λ_=>?_))
  |(with_reducible refine onB_n (λ_=>?_) (λ_=>?_))
  |refine OnB.mk (λ_=>?_) (λ_=>?_)
  |refine obl_i ?_ ?_
  |refine Drw.mk (by kernel_rfl) ?_
  |refine mks_i ?_ ?_
  |refine slp_i ?_ ?_
  |(with_reducible refine elem_u ?_ ?_)
  |(with_reducible refine elem_0 ?_)
  |(with_reducible refine elem_1 ?_)
  |refine Ends.mk ?_))
 all_goals (try refine Pr.mk ?_)
 all_goals first
  |((conv=>whnf);refine Sw.Loop.inv (α:=Nat × Nat) (λy=>[(4,.ptr 4 0),(7,.int .u64 (y.1:Nat)),(9,.int .u64 (y.2:Nat))]) (λy=>[(4,.var [.v (.bool false),.sl 1 []])]) (λy=>y.1<1000000000000000000∧y.2<1000000000000000000∧Nat.gcd y.1 y.2=Nat.gcd a.natAbs b.natAbs) (λy=>y.2) x ?_ ?_ ?_ (λy hy=>?_))
  |skip
 all_goals (repeat' ((try (conv=>whnf));first
  |refine call_0 ?_
  |refine call_i ?_ ?_
  |(with_reducible refine onB_t ?_)
  |(with_reducible refine onB_f ?_)
  |(with_reducible refine onB_d (λ_=>?_) (λ_=>?_))
  |(with_reducible refine onB_n (λ_=>?_) (λ_=>?_))
  |refine OnB.mk (λ_=>?_) (λ_=>?_)
  |refine obl_i ?_ ?_
  |refine Drw.mk (by kernel_rfl) ?_
  |refine mks_i ?_ ?_
  |refine slp_i ?_ ?_
  |(with_reducible refine elem_u ?_ ?_)
  |(with_reducible refine elem_0 ?_)
  |(with_reducible refine elem_1 ?_)
  |refine Ends.mk ?_))
 all_goals (try refine Pr.mk ?_)
 all_goals first|(show SubE _ _;repeat' (first|exact trivial|refine And.intro ?_ ?_))|(show SubB _ _;repeat' (first|exact trivial|refine And.intro ?_ ?_))|skip
 all_goals (try rfl)
 all_goals (try simp only [List.length_map] at *)
 all_goals first
  |with_reducible exact lb_lim _
  |with_reducible exact lb_pad _ _
  |exact zcells _ _ (by rw [val_lim];rfl)
  |exact ⟨trivial,hp.1,hp.2⟩
  |exact wif (by assumption)
  |exact ⟨sz_lt18 (by assumption),sz_lt18 (by assumption),hx.1⟩
  |with_reducible exact gdiv hx.2.1 hx.2.2 (by assumption)
  |omega
  |with_reducible exact gend (gzero (by assumption)) hx.1 (val_lim _)
  |with_reducible exact gend (by omega) hy.2.2 (val_pad _ _ (by omega))
  |(have h1:=hy.1;have h2:=hy.2.1;have h3:y.1 % y.2<y.2:=Nat.mod_lt _ (by omega);((conv=>whnf);exact ⟨(y.2,y.1 % y.2),⟨⟨rfl,rfl,gm2,trivial⟩,⟨rfl,trivial⟩,⟨by show y.2<_;omega,by show y.1 % y.2<_;omega,gcd_turn hy.2.2 rfl⟩,h3⟩⟩))
  |(have h0:=gpos (by assumption);have h3:x.1 % x.2<x.2:=Nat.mod_lt _ h0;((conv=>whnf);exact ⟨(x.2,x.1 % x.2),⟨⟨rfl,rfl,rfl,trivial⟩,⟨rfl,rfl,zcells _ _ (gst (by assumption)),trivial⟩,⟨gcd_turn hx.1 rfl,hx.2.2,Nat.le_trans (sz_mono (by rw [Int.natAbs_natCast,Int.natAbs_natCast];exact Nat.le_of_lt h3)) hx.2.2⟩,h3⟩⟩))
  |(have h0:=hx.2.1;unfold sz at h0;omega)
  |skip⟩
instance(k:Nat):DenI Tryz.prog 97 [.bool false,.c (.sl 1 (List.replicate k [Cell.v (.int .u32 0)]++[[Cell.v (.int .u32 1)]]))] True (Z ((1000000000 ^ k:Nat):Int)):=⟨λ_=>by
 have h:=(inferInstance:DenI Tryz.prog 97 [.bool false,.c (lmc (List.replicate k 0++[1]))] _ _).den ((lb_zeros k).append (Lb.cons (by omega) Lb.nil))
 rw [sqrt_start] at h
 unfold lmc at h
 rw [List.map_append,List.map_replicate] at h
 exact h⟩
instance i_sqrt(a:Int):DenI Tryz.prog 125 [Z a] (sz a≤100000000) (.tup [Z (if a<0 then 0 else isq a.natAbs),.int .i64 (if a<0 then 7 else 0)]):=⟨λhp=>by
 refine den_of (τ:=tab) tab_ok mixed_ Tryz.func125 rfl (by kernel_rfl) (by kernel_rfl) (by kernel_rfl) ?_
 repeat' ((try (conv=>whnf));first
  |refine call_0 ?_
  |refine call_i ?_ ?_
  |(with_reducible refine onB_t ?_)
  |(with_reducible refine onB_f ?_)
  |(with_reducible refine onB_d (λ_=>?_) (λ_=>?_))
  |(with_reducible refine onB_n (λ_=>?_) (λ_=>?_))
  |refine OnB.mk (λ_=>?_) (λ_=>?_)
  |refine obl_i ?_ ?_
  |refine Drw.mk (by kernel_rfl) ?_
  |refine mks_i ?_ ?_
  |refine slp_i ?_ ?_
  |(with_reducible refine elem_u ?_ ?_)
  |(with_reducible refine elem_0 ?_)
  |(with_reducible refine elem_1 ?_)
  |refine Ends.mk ?_)
 all_goals (try refine Pr.mk ?_)
 all_goals have hl:(lim a.natAbs).length≤100000000:=hp
 all_goals first
  |((conv=>whnf);refine Sw.Loop.inv (α:=Nat) (λx=>[(1,.ptr 1 0),(2,.ptr 2 0),(3,.int .i64 0),(5,.ptr 5 0),(6,.ptr 6 0)]) (λx=>[(1,.var [zs a,zl a]),(2,.var [.v (.bool false),.sl 1 []]),(5,.var [zs x,zl x]),(6,.var [zs 2,zl 2])]) (λx=>0<x∧a.natAbs<(x+1)*(x+1)∧sz x≤200000000) (λx=>x) (1000000000 ^ (((lim a.natAbs).length+1) / 2)) ?_ ?_ ?_ (λx hx=>?_))
  |skip
 all_goals (repeat' ((try (conv=>whnf));first
  |refine call_0 ?_
  |refine call_i ?_ ?_
  |(with_reducible refine onB_t ?_)
  |(with_reducible refine onB_f ?_)
  |(with_reducible refine onB_d (λ_=>?_) (λ_=>?_))
  |(with_reducible refine onB_n (λ_=>?_) (λ_=>?_))
  |refine OnB.mk (λ_=>?_) (λ_=>?_)
  |refine obl_i ?_ ?_
  |refine Drw.mk (by kernel_rfl) ?_
  |refine mks_i ?_ ?_
  |refine slp_i ?_ ?_
  |(with_reducible refine elem_u ?_ ?_)
  |(with_reducible refine elem_0 ?_)
  |(with_reducible refine elem_1 ?_)
  |refine Ends.mk ?_))
 all_goals (try refine Pr.mk ?_)
 all_goals first|(show SubE _ _;repeat' (first|exact trivial|refine And.intro ?_ ?_))|(show SubB _ _;repeat' (first|exact trivial|refine And.intro ?_ ?_))|skip
 all_goals (try rfl)
 all_goals (try simp only [nrm_] at *)
 all_goals (try simp only [List.length_map,val_lim,cast_len0,cast_len1] at *)
 all_goals (try rw [half_len (by omega)])
 all_goals (try simp only [Int.toNat_natCast,List.length_replicate,List.length_append,List.length_cons,List.length_nil])
 all_goals (try simp only [fdiv_nat (show 0≤a by omega),fdiv_two] at *)
 all_goals first
  |exact rsq_neg (by assumption)
  |exact rsq_zero (by assumption) (by assumption)
  |with_reducible exact rsq_end (by assumption) (by assumption) (by assumption)
  |((conv=>whnf);exact ⟨(x+a.natAbs / x) / 2,⟨⟨rfl,rfl,rfl,rfl,rfl,trivial⟩,⟨rfl,rfl,rfl,rfl,trivial⟩,rsq_step (by assumption) (by assumption) (by assumption),by show (x+a.natAbs / x) / 2<x;omega⟩⟩)
  |exact sqrt_facts rfl hl
  |with_reducible rfl
  |(show ld _ _=some _;rfl)
  |(have z1:=@sz_quot a;have z2:=sz_add;have z3:=sz_one;have z4:=sz_64 (n:=2) (by omega) (by omega);(repeat' apply And.intro)<;>first|assumption|omega|decide|(simp;done)|(have z5:=z1 (x:=x);have z6:=z2 x ((a.natAbs / x:Nat):Int);omega)|skip)⟩
instance r_unit : DenI Tryz.prog 102 [] (True) (Z 1):=⟨λhp=>by
 refine den_of (τ:=tab) tab_ok mixed_ Tryz.func102 rfl (by kernel_rfl) (by kernel_rfl) (by kernel_rfl) ?_
 repeat' ((try (conv=>whnf));first
  |refine call_0 ?_
  |refine call_i ?_ ?_
  |(with_reducible refine onB_t ?_)
  |(with_reducible refine onB_f ?_)
  |(with_reducible refine onB_d (λ_=>?_) (λ_=>?_))
  |(with_reducible refine onB_n (λ_=>?_) (λ_=>?_))
  |refine OnB.mk (λ_=>?_) (λ_=>?_)
  |refine obl_i ?_ ?_
  |refine Drw.mk (by kernel_rfl) ?_
  |refine mks_i ?_ ?_
  |refine slp_i ?_ ?_
  |(with_reducible refine elem_u ?_ ?_)
  |(with_reducible refine elem_0 ?_)
  |(with_reducible refine elem_1 ?_)
  |refine Ends.mk ?_)
 all_goals (try refine Pr.mk ?_)
 all_goals first|rfl|decide⟩
instance r_whole(n:Int):DenI Tryz.prog 83 [Z n] (True) (R (n:Rat)):=⟨λhp=>by
 refine den_of (τ:=tab) tab_ok mixed_ Tryz.func83 rfl (by kernel_rfl) (by kernel_rfl) (by kernel_rfl) ?_
 repeat' ((try (conv=>whnf));first
  |refine call_0 ?_
  |refine call_i ?_ ?_
  |(with_reducible refine onB_t ?_)
  |(with_reducible refine onB_f ?_)
  |(with_reducible refine onB_d (λ_=>?_) (λ_=>?_))
  |(with_reducible refine onB_n (λ_=>?_) (λ_=>?_))
  |refine OnB.mk (λ_=>?_) (λ_=>?_)
  |refine obl_i ?_ ?_
  |refine Drw.mk (by kernel_rfl) ?_
  |refine mks_i ?_ ?_
  |refine slp_i ?_ ?_
  |(with_reducible refine elem_u ?_ ?_)
  |(with_reducible refine elem_0 ?_)
  |(with_reducible refine elem_1 ?_)
  |refine Ends.mk ?_)
 all_goals (try refine Pr.mk ?_)
 rfl⟩
instance r_exact(a b:Int):DenI Tryz.prog 103 [Z a,Z b] (sz a≤1000000000∧sz b≤1000000000) (Z (a.fdiv b)):=⟨λhp=>by
 refine den_of (τ:=tab) tab_ok mixed_ Tryz.func103 rfl (by kernel_rfl) (by kernel_rfl) (by kernel_rfl) ?_
 repeat' ((try (conv=>whnf));first
  |refine call_0 ?_
  |refine call_i ?_ ?_
  |(with_reducible refine onB_t ?_)
  |(with_reducible refine onB_f ?_)
  |(with_reducible refine onB_d (λ_=>?_) (λ_=>?_))
  |(with_reducible refine onB_n (λ_=>?_) (λ_=>?_))
  |refine OnB.mk (λ_=>?_) (λ_=>?_)
  |refine obl_i ?_ ?_
  |refine Drw.mk (by kernel_rfl) ?_
  |refine mks_i ?_ ?_
  |refine slp_i ?_ ?_
  |(with_reducible refine elem_u ?_ ?_)
  |(with_reducible refine elem_0 ?_)
  |(with_reducible refine elem_1 ?_)
  |refine Ends.mk ?_)
 all_goals (try refine Pr.mk ?_)
 all_goals first|rfl|exact hp⟩
instance r_reduce(n d:Int):DenI Tryz.prog 60 [Z n,Z d] (d≠0∧sz n≤1000000000∧sz d≤1000000000) (R ((n:Rat) / d)):=⟨λhp=>by
 refine den_of (τ:=tab) tab_ok mixed_ Tryz.func60 rfl (by kernel_rfl) (by kernel_rfl) (by kernel_rfl) ?_
 repeat' ((try (conv=>whnf));first
  |refine call_0 ?_
  |refine call_i ?_ ?_
  |(with_reducible refine onB_t ?_)
  |(with_reducible refine onB_f ?_)
  |(with_reducible refine onB_d (λ_=>?_) (λ_=>?_))
  |(with_reducible refine onB_n (λ_=>?_) (λ_=>?_))
  |refine OnB.mk (λ_=>?_) (λ_=>?_)
  |refine obl_i ?_ ?_
  |refine Drw.mk (by kernel_rfl) ?_
  |refine mks_i ?_ ?_
  |refine slp_i ?_ ?_
  |(with_reducible refine elem_u ?_ ?_)
  |(with_reducible refine elem_0 ?_)
  |(with_reducible refine elem_1 ?_)
  |refine Ends.mk ?_)
 all_goals (try refine Pr.mk ?_)
 all_goals obtain ⟨h0,h1,h2⟩:=hp
 all_goals (try simp only [nrm_] at *)
 all_goals first
  |(show packA _=_;first|(by_cases hd:d<0;(obtain ⟨q1,q2⟩:=red_neg (n:=n) (d:=d) hd;first|exact packR q1 q2|(refine packR ?_ ?_<;>simp_all));(obtain ⟨q1,q2⟩:=red_pos (n:=n) (d:=d) (by omega);first|exact packR q1 q2|(refine packR ?_ ?_<;>simp_all))))
  |((try simp only [sz_neg]);(repeat' apply And.intro)<;>first|assumption|exact sz_gcd (by (try simp only [sz_neg]);assumption) (by (try simp only [sz_neg]);assumption))⟩
instance r_from(n:Int):DenI Tryz.prog 42 [.int .i64 n] (-9223372036854775808≤n∧n≤9223372036854775807) (R (n:Rat)):=⟨λhp=>by
 refine den_of (τ:=tab) tab_ok mixed_ Tryz.func42 rfl (by kernel_rfl) (by kernel_rfl) (by kernel_rfl) ?_
 repeat' ((try (conv=>whnf));first
  |refine call_0 ?_
  |refine call_i ?_ ?_
  |(with_reducible refine onB_t ?_)
  |(with_reducible refine onB_f ?_)
  |(with_reducible refine onB_d (λ_=>?_) (λ_=>?_))
  |(with_reducible refine onB_n (λ_=>?_) (λ_=>?_))
  |refine OnB.mk (λ_=>?_) (λ_=>?_)
  |refine obl_i ?_ ?_
  |refine Drw.mk (by kernel_rfl) ?_
  |refine mks_i ?_ ?_
  |refine slp_i ?_ ?_
  |(with_reducible refine elem_u ?_ ?_)
  |(with_reducible refine elem_0 ?_)
  |(with_reducible refine elem_1 ?_)
  |refine Ends.mk ?_)
 all_goals (try refine Pr.mk ?_)
 all_goals (try simp only [nrm_] at *)
 all_goals first
  |(show packA _=_;rfl)
  |((repeat' apply And.intro)<;>first|assumption|omega|exact Int.mul_ne_zero (den_ne _) (den_ne _)|exact den_ne _|grind [sz_mul,sz_add,sz_sub,sz_neg,rz_num,rz_den,rz_add,rz_mul,rz_neg,rz_sub,rz_int,sz_64,sz_one])⟩
instance r_sign(a:Rat):DenI Tryz.prog 17 [R a] (True) (.int .i64 (sgnR a)):=⟨λhp=>by
 refine den_of (τ:=tab) tab_ok mixed_ Tryz.func17 rfl (by kernel_rfl) (by kernel_rfl) (by kernel_rfl) ?_
 repeat' ((try (conv=>whnf));first
  |refine call_0 ?_
  |refine call_i ?_ ?_
  |(with_reducible refine onB_t ?_)
  |(with_reducible refine onB_f ?_)
  |(with_reducible refine onB_d (λ_=>?_) (λ_=>?_))
  |(with_reducible refine onB_n (λ_=>?_) (λ_=>?_))
  |refine OnB.mk (λ_=>?_) (λ_=>?_)
  |refine obl_i ?_ ?_
  |refine Drw.mk (by kernel_rfl) ?_
  |refine mks_i ?_ ?_
  |refine slp_i ?_ ?_
  |(with_reducible refine elem_u ?_ ?_)
  |(with_reducible refine elem_0 ?_)
  |(with_reducible refine elem_1 ?_)
  |refine Ends.mk ?_)
 all_goals (try refine Pr.mk ?_)
 all_goals (try simp only [nrm_] at *)
 all_goals first
  |(show packA _=_;rfl)
  |(skip)⟩
instance r_neg(a:Rat):DenI Tryz.prog 55 [R a] (rz a≤100000000) (R (-a)):=⟨λhp=>by
 refine den_of (τ:=tab) tab_ok mixed_ Tryz.func55 rfl (by kernel_rfl) (by kernel_rfl) (by kernel_rfl) ?_
 repeat' ((try (conv=>whnf));first
  |refine call_0 ?_
  |refine call_i ?_ ?_
  |(with_reducible refine onB_t ?_)
  |(with_reducible refine onB_f ?_)
  |(with_reducible refine onB_d (λ_=>?_) (λ_=>?_))
  |(with_reducible refine onB_n (λ_=>?_) (λ_=>?_))
  |refine OnB.mk (λ_=>?_) (λ_=>?_)
  |refine obl_i ?_ ?_
  |refine Drw.mk (by kernel_rfl) ?_
  |refine mks_i ?_ ?_
  |refine slp_i ?_ ?_
  |(with_reducible refine elem_u ?_ ?_)
  |(with_reducible refine elem_0 ?_)
  |(with_reducible refine elem_1 ?_)
  |refine Ends.mk ?_)
 all_goals (try refine Pr.mk ?_)
 all_goals (try simp only [nrm_] at *)
 all_goals first
  |(show packA _=_;rfl)
  |((repeat' apply And.intro)<;>first|assumption|omega|exact Int.mul_ne_zero (den_ne _) (den_ne _)|exact den_ne _|grind [sz_mul,sz_add,sz_sub,sz_neg,rz_num,rz_den,rz_add,rz_mul,rz_neg,rz_sub,rz_int,sz_64,sz_one])⟩
instance r_mul(a b:Rat):DenI Tryz.prog 27 [R a,R b] (rz a≤100000000∧rz b≤100000000) (R (a*b)):=⟨λhp=>by
 refine den_of (τ:=tab) tab_ok mixed_ Tryz.func27 rfl (by kernel_rfl) (by kernel_rfl) (by kernel_rfl) ?_
 repeat' ((try (conv=>whnf));first
  |refine call_0 ?_
  |refine call_i ?_ ?_
  |(with_reducible refine onB_t ?_)
  |(with_reducible refine onB_f ?_)
  |(with_reducible refine onB_d (λ_=>?_) (λ_=>?_))
  |(with_reducible refine onB_n (λ_=>?_) (λ_=>?_))
  |refine OnB.mk (λ_=>?_) (λ_=>?_)
  |refine obl_i ?_ ?_
  |refine Drw.mk (by kernel_rfl) ?_
  |refine mks_i ?_ ?_
  |refine slp_i ?_ ?_
  |(with_reducible refine elem_u ?_ ?_)
  |(with_reducible refine elem_0 ?_)
  |(with_reducible refine elem_1 ?_)
  |refine Ends.mk ?_)
 all_goals (try refine Pr.mk ?_)
 all_goals (try simp only [nrm_] at *)
 all_goals first
  |(show packA _=_;exact congrArg R (mul_div a b))
  |((repeat' apply And.intro)<;>first|assumption|omega|exact Int.mul_ne_zero (den_ne _) (den_ne _)|exact den_ne _|grind [sz_mul,sz_add,sz_sub,sz_neg,rz_num,rz_den,rz_add,rz_mul,rz_neg,rz_sub,rz_int,sz_64,sz_one])⟩
instance r_add(a b:Rat):DenI Tryz.prog 26 [R a,R b] (rz a≤100000000∧rz b≤100000000) (R (a+b)):=⟨λhp=>by
 refine den_of (τ:=tab) tab_ok mixed_ Tryz.func26 rfl (by kernel_rfl) (by kernel_rfl) (by kernel_rfl) ?_
 repeat' ((try (conv=>whnf));first
  |refine call_0 ?_
  |refine call_i ?_ ?_
  |(with_reducible refine onB_t ?_)
  |(with_reducible refine onB_f ?_)
  |(with_reducible refine onB_d (λ_=>?_) (λ_=>?_))
  |(with_reducible refine onB_n (λ_=>?_) (λ_=>?_))
  |refine OnB.mk (λ_=>?_) (λ_=>?_)
  |refine obl_i ?_ ?_
  |refine Drw.mk (by kernel_rfl) ?_
  |refine mks_i ?_ ?_
  |refine slp_i ?_ ?_
  |(with_reducible refine elem_u ?_ ?_)
  |(with_reducible refine elem_0 ?_)
  |(with_reducible refine elem_1 ?_)
  |refine Ends.mk ?_)
 all_goals (try refine Pr.mk ?_)
 all_goals (try simp only [nrm_] at *)
 all_goals first
  |(show packA _=_;first|exact congrArg R (add_div a b)|exact congrArg R (add_div' a b (by assumption)))
  |((repeat' apply And.intro)<;>first|assumption|omega|exact Int.mul_ne_zero (den_ne _) (den_ne _)|exact den_ne _|grind [sz_mul,sz_add,sz_sub,sz_neg,rz_num,rz_den,rz_add,rz_mul,rz_neg,rz_sub,rz_int,sz_64,sz_one])⟩
instance r_sub(a b:Rat):DenI Tryz.prog 21 [R a,R b] (rz a≤100000000∧rz b≤100000000) (R (a-b)):=⟨λhp=>by
 refine den_of (τ:=tab) tab_ok mixed_ Tryz.func21 rfl (by kernel_rfl) (by kernel_rfl) (by kernel_rfl) ?_
 repeat' ((try (conv=>whnf));first
  |refine call_0 ?_
  |refine call_i ?_ ?_
  |(with_reducible refine onB_t ?_)
  |(with_reducible refine onB_f ?_)
  |(with_reducible refine onB_d (λ_=>?_) (λ_=>?_))
  |(with_reducible refine onB_n (λ_=>?_) (λ_=>?_))
  |refine OnB.mk (λ_=>?_) (λ_=>?_)
  |refine obl_i ?_ ?_
  |refine Drw.mk (by kernel_rfl) ?_
  |refine mks_i ?_ ?_
  |refine slp_i ?_ ?_
  |(with_reducible refine elem_u ?_ ?_)
  |(with_reducible refine elem_0 ?_)
  |(with_reducible refine elem_1 ?_)
  |refine Ends.mk ?_)
 all_goals (try refine Pr.mk ?_)
 all_goals (try simp only [nrm_] at *)
 all_goals first
  |(show packA _=_;exact congrArg R (Rat.sub_eq_add_neg a b).symm)
  |((repeat' apply And.intro)<;>first|assumption|omega|exact Int.mul_ne_zero (den_ne _) (den_ne _)|exact den_ne _|grind [sz_mul,sz_add,sz_sub,sz_neg,rz_num,rz_den,rz_add,rz_mul,rz_neg,rz_sub,rz_int,sz_64,sz_one])⟩
instance r_floor(a:Rat):DenI Tryz.prog 70 [R a] (rz a≤100000000) (Z a.floor):=⟨λhp=>by
 refine den_of (τ:=tab) tab_ok mixed_ Tryz.func70 rfl (by kernel_rfl) (by kernel_rfl) (by kernel_rfl) ?_
 repeat' ((try (conv=>whnf));first
  |refine call_0 ?_
  |refine call_i ?_ ?_
  |(with_reducible refine onB_t ?_)
  |(with_reducible refine onB_f ?_)
  |(with_reducible refine onB_d (λ_=>?_) (λ_=>?_))
  |(with_reducible refine onB_n (λ_=>?_) (λ_=>?_))
  |refine OnB.mk (λ_=>?_) (λ_=>?_)
  |refine obl_i ?_ ?_
  |refine Drw.mk (by kernel_rfl) ?_
  |refine mks_i ?_ ?_
  |refine slp_i ?_ ?_
  |(with_reducible refine elem_u ?_ ?_)
  |(with_reducible refine elem_0 ?_)
  |(with_reducible refine elem_1 ?_)
  |refine Ends.mk ?_)
 all_goals (try refine Pr.mk ?_)
 all_goals (try simp only [nrm_] at *)
 all_goals first
  |(show packA _=_;exact congrArg Z (floor_of a))
  |((repeat' apply And.intro)<;>first|assumption|omega|exact Int.mul_ne_zero (den_ne _) (den_ne _)|exact den_ne _|grind [sz_mul,sz_add,sz_sub,sz_neg,rz_num,rz_den,rz_add,rz_mul,rz_neg,rz_sub,rz_int,sz_64,sz_one])⟩
instance ri_divmod(a b:Int):DenI Tryz.prog 88 [Z a,Z b] (sz a≤500000000∧sz b≤500000000) (.tup [Z (a.fdiv b),Z (if b=0 then 0 else a.fmod b),.int .i64 (if b=0 then 6 else 0)]):=⟨λhp=>by
 refine den_of (τ:=tab) tab_ok mixed_ Tryz.func88 rfl (by kernel_rfl) (by kernel_rfl) (by kernel_rfl) ?_
 repeat' ((try (conv=>whnf));first
  |refine call_0 ?_
  |refine call_i ?_ ?_
  |(with_reducible refine onB_t ?_)
  |(with_reducible refine onB_f ?_)
  |(with_reducible refine onB_d (λ_=>?_) (λ_=>?_))
  |(with_reducible refine onB_n (λ_=>?_) (λ_=>?_))
  |refine OnB.mk (λ_=>?_) (λ_=>?_)
  |refine obl_i ?_ ?_
  |refine Drw.mk (by kernel_rfl) ?_
  |refine mks_i ?_ ?_
  |refine slp_i ?_ ?_
  |(with_reducible refine elem_u ?_ ?_)
  |(with_reducible refine elem_0 ?_)
  |(with_reducible refine elem_1 ?_)
  |refine Ends.mk ?_)
 all_goals (try refine Pr.mk ?_)
 all_goals (try simp only [List.length_map,val_lim,cast_len0,cast_len1] at *)
 all_goals obtain ⟨h1,h2⟩:=hp
 all_goals (try simp only [nrm_] at *)
 all_goals first
  |(show packA _=_;(first|(have hb0:b=0:=(by omega);subst hb0;exact rdm_zero a)|with_reducible exact rdm_turn (by assumption) (by assumption) (by assumption)|with_reducible exact rdm_keep (by assumption) (.inl (by omega))|with_reducible exact rdm_keep (by assumption) (.inr (by simp_all))))
  |(have z1:=sz_sgnv (decide (a<0) != decide (b<0)) (a.natAbs / b.natAbs) a (Nat.div_le_self _ _);have z2:=sz_sgnv (decide (a<0)) (a.natAbs % b.natAbs) a (Nat.mod_le _ _);have z3:=sz_one;(repeat' apply And.intro)<;>first|assumption|omega|exact CanL.lim _|exact lb_lim _|exact trimz_lim _|(unfold sz at *;omega)|skip)⟩
instance rr_unit : DenI Tryz.prog 66 [] (True) (Z 1):=⟨λhp=>by
 refine den_of (τ:=tab) tab_ok mixed_ Tryz.func66 rfl (by kernel_rfl) (by kernel_rfl) (by kernel_rfl) ?_
 repeat' ((try (conv=>whnf));first
  |refine call_0 ?_
  |refine call_i ?_ ?_
  |(with_reducible refine onB_t ?_)
  |(with_reducible refine onB_f ?_)
  |(with_reducible refine onB_d (λ_=>?_) (λ_=>?_))
  |(with_reducible refine onB_n (λ_=>?_) (λ_=>?_))
  |refine OnB.mk (λ_=>?_) (λ_=>?_)
  |refine obl_i ?_ ?_
  |refine Drw.mk (by kernel_rfl) ?_
  |refine mks_i ?_ ?_
  |refine slp_i ?_ ?_
  |(with_reducible refine elem_u ?_ ?_)
  |(with_reducible refine elem_0 ?_)
  |(with_reducible refine elem_1 ?_)
  |refine Ends.mk ?_)
 all_goals (try refine Pr.mk ?_)
 all_goals first|rfl|decide⟩
instance rr_of(n d:Int):DenI Tryz.prog 43 [Z n,Z d] (d≠0∧sz n≤500000000∧sz d≤500000000) (R ((n:Rat) / d)):=⟨λhp=>by
 refine den_of (τ:=tab) tab_ok mixed_ Tryz.func43 rfl (by kernel_rfl) (by kernel_rfl) (by kernel_rfl) ?_
 repeat' ((try (conv=>whnf));first
  |refine call_0 ?_
  |refine call_i ?_ ?_
  |(with_reducible refine onB_t ?_)
  |(with_reducible refine onB_f ?_)
  |(with_reducible refine onB_d (λ_=>?_) (λ_=>?_))
  |(with_reducible refine onB_n (λ_=>?_) (λ_=>?_))
  |refine OnB.mk (λ_=>?_) (λ_=>?_)
  |refine obl_i ?_ ?_
  |refine Drw.mk (by kernel_rfl) ?_
  |refine mks_i ?_ ?_
  |refine slp_i ?_ ?_
  |(with_reducible refine elem_u ?_ ?_)
  |(with_reducible refine elem_0 ?_)
  |(with_reducible refine elem_1 ?_)
  |refine Ends.mk ?_)
 all_goals (try refine Pr.mk ?_)
 all_goals obtain ⟨h0,h1,h2⟩:=hp
 all_goals (try simp only [nrm_] at *)
 all_goals first
  |(show packA _=_;first|(by_cases hd:d<0;(obtain ⟨q1,q2⟩:=red_neg (n:=n) (d:=d) hd;first|exact packR q1 q2|(refine packR ?_ ?_<;>simp_all));(obtain ⟨q1,q2⟩:=red_pos (n:=n) (d:=d) (by omega);first|exact packR q1 q2|(refine packR ?_ ?_<;>simp_all))))
  |((try simp only [sz_neg]);(repeat' apply And.intro)<;>first|assumption|omega|exact sz_gcd (by (try simp only [sz_neg]);assumption) (by (try simp only [sz_neg]);assumption))⟩
instance rr_from(n:Int):DenI Tryz.prog 30 [.int .i64 n] (-9223372036854775808≤n∧n≤9223372036854775807) (R (n:Rat)):=⟨λhp=>by
 refine den_of (τ:=tab) tab_ok mixed_ Tryz.func30 rfl (by kernel_rfl) (by kernel_rfl) (by kernel_rfl) ?_
 repeat' ((try (conv=>whnf));first
  |refine call_0 ?_
  |refine call_i ?_ ?_
  |(with_reducible refine onB_t ?_)
  |(with_reducible refine onB_f ?_)
  |(with_reducible refine onB_d (λ_=>?_) (λ_=>?_))
  |(with_reducible refine onB_n (λ_=>?_) (λ_=>?_))
  |refine OnB.mk (λ_=>?_) (λ_=>?_)
  |refine obl_i ?_ ?_
  |refine Drw.mk (by kernel_rfl) ?_
  |refine mks_i ?_ ?_
  |refine slp_i ?_ ?_
  |(with_reducible refine elem_u ?_ ?_)
  |(with_reducible refine elem_0 ?_)
  |(with_reducible refine elem_1 ?_)
  |refine Ends.mk ?_)
 all_goals (try refine Pr.mk ?_)
 all_goals (try simp only [nrm_] at *)
 all_goals first
  |(show packA _=_;rfl)
  |(exact hp)⟩
instance rr_frac(n d:Int):DenI Tryz.prog 15 [.int .i64 n,.int .i64 d] ((-9223372036854775808≤n∧n≤9223372036854775807)∧-9223372036854775808≤d∧d≤9223372036854775807) (R ((n:Rat) / d)):=⟨λhp=>by
 refine den_of (τ:=tab) tab_ok mixed_ Tryz.func15 rfl (by kernel_rfl) (by kernel_rfl) (by kernel_rfl) ?_
 repeat' ((try (conv=>whnf));first
  |refine call_0 ?_
  |refine call_i ?_ ?_
  |(with_reducible refine onB_t ?_)
  |(with_reducible refine onB_f ?_)
  |(with_reducible refine onB_d (λ_=>?_) (λ_=>?_))
  |(with_reducible refine onB_n (λ_=>?_) (λ_=>?_))
  |refine OnB.mk (λ_=>?_) (λ_=>?_)
  |refine obl_i ?_ ?_
  |refine Drw.mk (by kernel_rfl) ?_
  |refine mks_i ?_ ?_
  |refine slp_i ?_ ?_
  |(with_reducible refine elem_u ?_ ?_)
  |(with_reducible refine elem_0 ?_)
  |(with_reducible refine elem_1 ?_)
  |refine Ends.mk ?_)
 all_goals (try refine Pr.mk ?_)
 all_goals obtain ⟨⟨h1,h2⟩,h3,h4⟩:=hp
 all_goals (try simp only [nrm_] at *)
 all_goals first
  |(show packA _=_;first|rfl|(subst d;exact congrArg R (frac0 n)))
  |(have z1:=sz_64 h1 h2;have z2:=sz_64 h3 h4;have z3:=sz_one;have z4:=sz_64 (n:=0) (by omega) (by omega);(repeat' apply And.intro)<;>first|assumption|omega|exact Int.mul_ne_zero (den_ne _) (den_ne _)|exact den_ne _|grind [sz_mul,sz_add,sz_sub,sz_neg,rz_num,rz_den,rz_add,rz_mul,rz_neg,rz_sub,rz_int,sz_64,sz_one])⟩
instance rr_sign(a:Rat):DenI Tryz.prog 45 [R a] (True) (.int .i64 (sgnR a)):=⟨λhp=>by
 refine den_of (τ:=tab) tab_ok mixed_ Tryz.func45 rfl (by kernel_rfl) (by kernel_rfl) (by kernel_rfl) ?_
 repeat' ((try (conv=>whnf));first
  |refine call_0 ?_
  |refine call_i ?_ ?_
  |(with_reducible refine onB_t ?_)
  |(with_reducible refine onB_f ?_)
  |(with_reducible refine onB_d (λ_=>?_) (λ_=>?_))
  |(with_reducible refine onB_n (λ_=>?_) (λ_=>?_))
  |refine OnB.mk (λ_=>?_) (λ_=>?_)
  |refine obl_i ?_ ?_
  |refine Drw.mk (by kernel_rfl) ?_
  |refine mks_i ?_ ?_
  |refine slp_i ?_ ?_
  |(with_reducible refine elem_u ?_ ?_)
  |(with_reducible refine elem_0 ?_)
  |(with_reducible refine elem_1 ?_)
  |refine Ends.mk ?_)
 all_goals (try refine Pr.mk ?_)
 all_goals (try simp only [nrm_] at *)
 all_goals first
  |(show packA _=_;rfl)
  |(skip)⟩
instance rr_neg(a:Rat):DenI Tryz.prog 284 [R a] (rz a≤100000000) (R (-a)):=⟨λhp=>by
 refine den_of (τ:=tab) tab_ok mixed_ Tryz.func284 rfl (by kernel_rfl) (by kernel_rfl) (by kernel_rfl) ?_
 repeat' ((try (conv=>whnf));first
  |refine call_0 ?_
  |refine call_i ?_ ?_
  |(with_reducible refine onB_t ?_)
  |(with_reducible refine onB_f ?_)
  |(with_reducible refine onB_d (λ_=>?_) (λ_=>?_))
  |(with_reducible refine onB_n (λ_=>?_) (λ_=>?_))
  |refine OnB.mk (λ_=>?_) (λ_=>?_)
  |refine obl_i ?_ ?_
  |refine Drw.mk (by kernel_rfl) ?_
  |refine mks_i ?_ ?_
  |refine slp_i ?_ ?_
  |(with_reducible refine elem_u ?_ ?_)
  |(with_reducible refine elem_0 ?_)
  |(with_reducible refine elem_1 ?_)
  |refine Ends.mk ?_)
 all_goals (try refine Pr.mk ?_)
 all_goals (try simp only [nrm_] at *)
 all_goals first
  |(show packA _=_;rfl)
  |((repeat' apply And.intro)<;>first|assumption|omega|exact Int.mul_ne_zero (den_ne _) (den_ne _)|exact den_ne _|grind [sz_mul,sz_add,sz_sub,sz_neg,rz_num,rz_den,rz_add,rz_mul,rz_neg,rz_sub,rz_int,sz_64,sz_one])⟩
instance rr_mul(a b:Rat):DenI Tryz.prog 49 [R a,R b] (rz a≤100000000∧rz b≤100000000) (R (a*b)):=⟨λhp=>by
 refine den_of (τ:=tab) tab_ok mixed_ Tryz.func49 rfl (by kernel_rfl) (by kernel_rfl) (by kernel_rfl) ?_
 repeat' ((try (conv=>whnf));first
  |refine call_0 ?_
  |refine call_i ?_ ?_
  |(with_reducible refine onB_t ?_)
  |(with_reducible refine onB_f ?_)
  |(with_reducible refine onB_d (λ_=>?_) (λ_=>?_))
  |(with_reducible refine onB_n (λ_=>?_) (λ_=>?_))
  |refine OnB.mk (λ_=>?_) (λ_=>?_)
  |refine obl_i ?_ ?_
  |refine Drw.mk (by kernel_rfl) ?_
  |refine mks_i ?_ ?_
  |refine slp_i ?_ ?_
  |(with_reducible refine elem_u ?_ ?_)
  |(with_reducible refine elem_0 ?_)
  |(with_reducible refine elem_1 ?_)
  |refine Ends.mk ?_)
 all_goals (try refine Pr.mk ?_)
 all_goals (try simp only [nrm_] at *)
 all_goals first
  |(show packA _=_;exact congrArg R (mul_div a b))
  |((repeat' apply And.intro)<;>first|assumption|omega|exact Int.mul_ne_zero (den_ne _) (den_ne _)|exact den_ne _|grind [sz_mul,sz_add,sz_sub,sz_neg,rz_num,rz_den,rz_add,rz_mul,rz_neg,rz_sub,rz_int,sz_64,sz_one])⟩
instance rr_add(a b:Rat):DenI Tryz.prog 48 [R a,R b] (rz a≤100000000∧rz b≤100000000) (R (a+b)):=⟨λhp=>by
 refine den_of (τ:=tab) tab_ok mixed_ Tryz.func48 rfl (by kernel_rfl) (by kernel_rfl) (by kernel_rfl) ?_
 repeat' ((try (conv=>whnf));first
  |refine call_0 ?_
  |refine call_i ?_ ?_
  |(with_reducible refine onB_t ?_)
  |(with_reducible refine onB_f ?_)
  |(with_reducible refine onB_d (λ_=>?_) (λ_=>?_))
  |(with_reducible refine onB_n (λ_=>?_) (λ_=>?_))
  |refine OnB.mk (λ_=>?_) (λ_=>?_)
  |refine obl_i ?_ ?_
  |refine Drw.mk (by kernel_rfl) ?_
  |refine mks_i ?_ ?_
  |refine slp_i ?_ ?_
  |(with_reducible refine elem_u ?_ ?_)
  |(with_reducible refine elem_0 ?_)
  |(with_reducible refine elem_1 ?_)
  |refine Ends.mk ?_)
 all_goals (try refine Pr.mk ?_)
 all_goals (try simp only [nrm_] at *)
 all_goals first
  |(show packA _=_;exact congrArg R (add_div a b))
  |((repeat' apply And.intro)<;>first|assumption|omega|exact Int.mul_ne_zero (den_ne _) (den_ne _)|exact den_ne _|grind [sz_mul,sz_add,sz_sub,sz_neg,rz_num,rz_den,rz_add,rz_mul,rz_neg,rz_sub,rz_int,sz_64,sz_one])⟩
instance rr_sub(a b:Rat):DenI Tryz.prog 254 [R a,R b] (rz a≤100000000∧rz b≤100000000) (R (a-b)):=⟨λhp=>by
 refine den_of (τ:=tab) tab_ok mixed_ Tryz.func254 rfl (by kernel_rfl) (by kernel_rfl) (by kernel_rfl) ?_
 repeat' ((try (conv=>whnf));first
  |refine call_0 ?_
  |refine call_i ?_ ?_
  |(with_reducible refine onB_t ?_)
  |(with_reducible refine onB_f ?_)
  |(with_reducible refine onB_d (λ_=>?_) (λ_=>?_))
  |(with_reducible refine onB_n (λ_=>?_) (λ_=>?_))
  |refine OnB.mk (λ_=>?_) (λ_=>?_)
  |refine obl_i ?_ ?_
  |refine Drw.mk (by kernel_rfl) ?_
  |refine mks_i ?_ ?_
  |refine slp_i ?_ ?_
  |(with_reducible refine elem_u ?_ ?_)
  |(with_reducible refine elem_0 ?_)
  |(with_reducible refine elem_1 ?_)
  |refine Ends.mk ?_)
 all_goals (try refine Pr.mk ?_)
 all_goals (try simp only [nrm_] at *)
 all_goals first
  |(show packA _=_;exact congrArg R (Rat.sub_eq_add_neg a b).symm)
  |((repeat' apply And.intro)<;>first|assumption|omega|exact Int.mul_ne_zero (den_ne _) (den_ne _)|exact den_ne _|grind [sz_mul,sz_add,sz_sub,sz_neg,rz_num,rz_den,rz_add,rz_mul,rz_neg,rz_sub,rz_int,sz_64,sz_one])⟩
instance rr_cmp(a b:Rat):DenI Tryz.prog 62 [R a,R b] (rz a≤100000000∧rz b≤100000000) (.int .i64 (cmpR a b)):=⟨λhp=>by
 refine den_of (τ:=tab) tab_ok mixed_ Tryz.func62 rfl (by kernel_rfl) (by kernel_rfl) (by kernel_rfl) ?_
 repeat' ((try (conv=>whnf));first
  |refine call_0 ?_
  |refine call_i ?_ ?_
  |(with_reducible refine onB_t ?_)
  |(with_reducible refine onB_f ?_)
  |(with_reducible refine onB_d (λ_=>?_) (λ_=>?_))
  |(with_reducible refine onB_n (λ_=>?_) (λ_=>?_))
  |refine OnB.mk (λ_=>?_) (λ_=>?_)
  |refine obl_i ?_ ?_
  |refine Drw.mk (by kernel_rfl) ?_
  |refine mks_i ?_ ?_
  |refine slp_i ?_ ?_
  |(with_reducible refine elem_u ?_ ?_)
  |(with_reducible refine elem_0 ?_)
  |(with_reducible refine elem_1 ?_)
  |refine Ends.mk ?_)
 all_goals (try refine Pr.mk ?_)
 all_goals (try simp only [nrm_] at *)
 all_goals first
  |(show packA _=_;rfl)
  |((repeat' apply And.intro)<;>first|assumption|omega|exact Int.mul_ne_zero (den_ne _) (den_ne _)|exact den_ne _|grind [sz_mul,sz_add,sz_sub,sz_neg,rz_num,rz_den,rz_add,rz_mul,rz_neg,rz_sub,rz_int,sz_64,sz_one])⟩
instance ri_sqrt(a:Int):DenI Tryz.prog 141 [Z a] (sz a≤100000000) (.tup [Z (if a<0 then 0 else isq a.natAbs),.int .i64 (if a<0 then 7 else 0)]):=⟨λhp=>by
 refine den_of (τ:=tab) tab_ok mixed_ Tryz.func141 rfl (by kernel_rfl) (by kernel_rfl) (by kernel_rfl) ?_
 repeat' ((try (conv=>whnf));first
  |refine call_0 ?_
  |refine call_i ?_ ?_
  |(with_reducible refine onB_t ?_)
  |(with_reducible refine onB_f ?_)
  |(with_reducible refine onB_d (λ_=>?_) (λ_=>?_))
  |(with_reducible refine onB_n (λ_=>?_) (λ_=>?_))
  |refine OnB.mk (λ_=>?_) (λ_=>?_)
  |refine obl_i ?_ ?_
  |refine Drw.mk (by kernel_rfl) ?_
  |refine mks_i ?_ ?_
  |refine slp_i ?_ ?_
  |(with_reducible refine elem_u ?_ ?_)
  |(with_reducible refine elem_0 ?_)
  |(with_reducible refine elem_1 ?_)
  |refine Ends.mk ?_)
 all_goals (try refine Pr.mk ?_)
 all_goals have hl:(lim a.natAbs).length≤100000000:=hp
 all_goals first
  |((conv=>whnf);refine Sw.Loop.inv (α:=Nat) (λx=>[(1,.ptr 1 0),(2,.ptr 2 0),(3,.int .i64 0),(4,.ptr 4 0),(5,.ptr 5 0)]) (λx=>[(1,.var [zs a,zl a]),(2,.var [.v (.bool false),.sl 1 []]),(4,.var [zs x,zl x]),(5,.var [zs 2,zl 2])]) (λx=>0<x∧a.natAbs<(x+1)*(x+1)∧sz x≤200000000) (λx=>x) (1000000000 ^ (((lim a.natAbs).length+1) / 2)) ?_ ?_ ?_ (λx hx=>?_))
  |skip
 all_goals (repeat' ((try (conv=>whnf));first
  |refine call_0 ?_
  |refine call_i ?_ ?_
  |(with_reducible refine onB_t ?_)
  |(with_reducible refine onB_f ?_)
  |(with_reducible refine onB_d (λ_=>?_) (λ_=>?_))
  |(with_reducible refine onB_n (λ_=>?_) (λ_=>?_))
  |refine OnB.mk (λ_=>?_) (λ_=>?_)
  |refine obl_i ?_ ?_
  |refine Drw.mk (by kernel_rfl) ?_
  |refine mks_i ?_ ?_
  |refine slp_i ?_ ?_
  |(with_reducible refine elem_u ?_ ?_)
  |(with_reducible refine elem_0 ?_)
  |(with_reducible refine elem_1 ?_)
  |refine Ends.mk ?_))
 all_goals (try refine Pr.mk ?_)
 all_goals first|(show SubE _ _;repeat' (first|exact trivial|refine And.intro ?_ ?_))|(show SubB _ _;repeat' (first|exact trivial|refine And.intro ?_ ?_))|skip
 all_goals (try rfl)
 all_goals (try simp only [nrm_] at *)
 all_goals (try simp only [List.length_map,val_lim,cast_len0,cast_len1] at *)
 all_goals (try rw [half_len (by omega)])
 all_goals (try simp only [fdiv_nat (show 0≤a by omega),fdiv_two] at *)
 all_goals first
  |exact rsq_neg (by assumption)
  |exact rsq_zero (by assumption) (by assumption)
  |with_reducible exact rsq_end (by assumption) (by assumption) (by assumption)
  |((conv=>whnf);exact ⟨(x+a.natAbs / x) / 2,⟨⟨rfl,rfl,rfl,rfl,rfl,trivial⟩,⟨rfl,rfl,rfl,rfl,trivial⟩,rsq_step (by assumption) (by assumption) (by assumption),by show (x+a.natAbs / x) / 2<x;omega⟩⟩)
  |(refine (congrArg (λc=>some (Bk.var c)) ?_:some (Bk.var _)=some (Bk.var _));exact pow_cells _)
  |exact sqrt_facts rfl hl
  |(have z1:=@sz_quot a;have z2:=sz_add;have z3:=sz_one;have z4:=sz_64 (n:=2) (by omega) (by omega);(repeat' apply And.intro)<;>first|assumption|omega|decide|(simp only [Int.toNat_natCast,List.length_replicate,List.length_append,List.length_cons,List.length_nil];omega)|(simp;done)|(have z5:=z1 (x:=x);have z6:=z2 x ((a.natAbs / x:Nat):Int);omega)|skip)⟩
instance f_proper(l h:Int):DenI Tryz.prog 72 [.int .i64 l,.int .i64 h] (True) (Ov (mkI l h)):=⟨λhp=>by
 refine den_of (τ:=tab) tab_ok mixed_ Tryz.func72 rfl (by kernel_rfl) (by kernel_rfl) (by kernel_rfl) ?_
 repeat' ((try (conv=>whnf));first
  |refine call_0 ?_
  |refine call_i ?_ ?_
  |(with_reducible refine onB_t ?_)
  |(with_reducible refine onB_f ?_)
  |(with_reducible refine onB_d (λ_=>?_) (λ_=>?_))
  |(with_reducible refine onB_n (λ_=>?_) (λ_=>?_))
  |refine OnB.mk (λ_=>?_) (λ_=>?_)
  |refine obl_i ?_ ?_
  |refine Drw.mk (by kernel_rfl) ?_
  |refine mks_i ?_ ?_
  |refine slp_i ?_ ?_
  |(with_reducible refine elem_u ?_ ?_)
  |(with_reducible refine elem_0 ?_)
  |(with_reducible refine elem_1 ?_)
  |refine Ends.mk ?_)
 all_goals (try refine Pr.mk ?_)
 all_goals first
  |(rw [mkI_yes (by omega) (by omega)];rfl)
  |(rw [mkI_no (by omega)];rfl)⟩
instance f_abs(n:Int):DenI Tryz.prog 127 [.int .i64 n] (-9223372036854775808≤n∧n≤9223372036854775807) (.int .u64 n.natAbs):=⟨λhp=>by
 refine den_of (τ:=tab) tab_ok mixed_ Tryz.func127 rfl (by kernel_rfl) (by kernel_rfl) (by kernel_rfl) ?_
 repeat' ((try (conv=>whnf));first
  |refine call_0 ?_
  |refine call_i ?_ ?_
  |(with_reducible refine onB_t ?_)
  |(with_reducible refine onB_f ?_)
  |(with_reducible refine onB_d (λ_=>?_) (λ_=>?_))
  |(with_reducible refine onB_n (λ_=>?_) (λ_=>?_))
  |refine OnB.mk (λ_=>?_) (λ_=>?_)
  |refine obl_i ?_ ?_
  |refine Drw.mk (by kernel_rfl) ?_
  |refine mks_i ?_ ?_
  |refine slp_i ?_ ?_
  |(with_reducible refine elem_u ?_ ?_)
  |(with_reducible refine elem_0 ?_)
  |(with_reducible refine elem_1 ?_)
  |refine Ends.mk ?_)
 all_goals (try refine Pr.mk ?_)
 all_goals (refine iE ?_;simp only [IntKind.wrap_u64];omega)⟩
instance f_sign(l h:Int):DenI Tryz.prog 100 [Iv l h] (True) (.tup [.int .i64 (sgIv l h).1,.bool (sgIv l h).2]):=⟨λhp=>by
 refine den_of (τ:=tab) tab_ok mixed_ Tryz.func100 rfl (by kernel_rfl) (by kernel_rfl) (by kernel_rfl) ?_
 repeat' ((try (conv=>whnf));first
  |refine call_0 ?_
  |refine call_i ?_ ?_
  |(with_reducible refine onB_t ?_)
  |(with_reducible refine onB_f ?_)
  |(with_reducible refine onB_d (λ_=>?_) (λ_=>?_))
  |(with_reducible refine onB_n (λ_=>?_) (λ_=>?_))
  |refine OnB.mk (λ_=>?_) (λ_=>?_)
  |refine obl_i ?_ ?_
  |refine Drw.mk (by kernel_rfl) ?_
  |refine mks_i ?_ ?_
  |refine slp_i ?_ ?_
  |(with_reducible refine elem_u ?_ ?_)
  |(with_reducible refine elem_0 ?_)
  |(with_reducible refine elem_1 ?_)
  |refine Ends.mk ?_)
 all_goals (try refine Pr.mk ?_)
 all_goals (refine ibE ?_ ?_<;>unfold sgIv<;>(repeat' split)<;>simp_all<;>omega)⟩
instance f_mul64(a b:Nat):DenI Tryz.prog 126 [.int .u64 a,.int .u64 b] (a<18446744073709551616∧b<18446744073709551616) (.tup [.int .u64 (a*b / 18446744073709551616:Nat),.int .u64 (a*b % 18446744073709551616:Nat)]):=⟨λhp=>by
 refine den_of (τ:=tab) tab_ok mixed_ Tryz.func126 rfl (by kernel_rfl) (by kernel_rfl) (by kernel_rfl) ?_
 repeat' ((try (conv=>whnf));first
  |refine call_0 ?_
  |refine call_i ?_ ?_
  |(with_reducible refine onB_t ?_)
  |(with_reducible refine onB_f ?_)
  |(with_reducible refine onB_d (λ_=>?_) (λ_=>?_))
  |(with_reducible refine onB_n (λ_=>?_) (λ_=>?_))
  |refine OnB.mk (λ_=>?_) (λ_=>?_)
  |refine obl_i ?_ ?_
  |refine Drw.mk (by kernel_rfl) ?_
  |refine mks_i ?_ ?_
  |refine slp_i ?_ ?_
  |(with_reducible refine elem_u ?_ ?_)
  |(with_reducible refine elem_0 ?_)
  |(with_reducible refine elem_1 ?_)
  |refine Ends.mk ?_)
 all_goals (try refine Pr.mk ?_)
 all_goals first
  |(show (0:Int)≤_;decide)
  |(simp only [sh32,sh16,sh48,e32,e16,e48,fdiv_cast,andI32,andI16,wu,← Int.natCast_mul,← Int.natCast_add];obtain ⟨m1,m2,m3,m4,m5⟩:=mul64_law (a:=a) (b:=b) hp.1 hp.2 rfl rfl rfl rfl;refine iE2 ?_ rfl;rw [← m1];apply congrArg Nat.cast;omega)⟩
instance f_scaled(x y:Int):DenI Tryz.prog 74 [.int .i64 x,.int .i64 y] ((-9223372036854775808≤x∧x≤9223372036854775807)∧-9223372036854775808≤y∧y≤9223372036854775807) (.tup [.int .i64 (scI x y).1,.int .i64 (scI x y).2.1,.bool (scI x y).2.2]):=⟨λhp=>by
 refine den_of (τ:=tab) tab_ok mixed_ Tryz.func74 rfl (by kernel_rfl) (by kernel_rfl) (by kernel_rfl) ?_
 repeat' ((try (conv=>whnf));first
  |refine call_0 ?_
  |refine call_i ?_ ?_
  |(with_reducible refine onB_t ?_)
  |(with_reducible refine onB_f ?_)
  |(with_reducible refine onB_d (λ_=>?_) (λ_=>?_))
  |(with_reducible refine onB_n (λ_=>?_) (λ_=>?_))
  |refine OnB.mk (λ_=>?_) (λ_=>?_)
  |refine obl_i ?_ ?_
  |refine Drw.mk (by kernel_rfl) ?_
  |refine mks_i ?_ ?_
  |refine slp_i ?_ ?_
  |(with_reducible refine elem_u ?_ ?_)
  |(with_reducible refine elem_0 ?_)
  |(with_reducible refine elem_1 ?_)
  |refine Ends.mk ?_)
 all_goals (try refine Pr.mk ?_)
 all_goals (try simp only [sh16,sh48,e16,e48,fdiv_cast,andI16] at *)
 all_goals first
  |exact hp.1
  |exact hp.2
  |(show (0:Int)≤_;decide)
  |(constructor<;>omega)
  |(refine sc_fin ?_;exact sc_big (by assumption))
  |(rw [sc_q (by omega)] at *;refine sc_fin ?_;exact sc_big2 (x:=x) (y:=y) (by assumption))
  |(rw [sc_q (by omega)] at *;have q1:=w1 (q:=((x.natAbs*y.natAbs / 65536:Nat):Int)) (by omega) (by assumption);have q2:=w2 (q:=((x.natAbs*y.natAbs / 65536:Nat):Int)) (by omega) (by assumption);have q3:=w3 (q:=((x.natAbs*y.natAbs / 65536:Nat):Int)) (by omega) (by assumption);have q4:=w4 (q:=((x.natAbs*y.natAbs / 65536:Nat):Int)) (by omega) (by assumption);rename_i g1 g2 g3 g4 hl;(try rw [q1] at hl);(try rw [q2] at hl);(try rw [q3] at hl);(try rw [q4] at hl);(try rw [q1]);(try rw [q2]);(try rw [q3]);(try rw [q4]);clear q1 q2 q3 q4;first|refine sc_leaf (z:=true) g2 g3 g1 (decide_eq_true (by omega)) rfl rfl ?_|refine sc_leaf (z:=false) g2 g3 g1 (decide_eq_false (by omega)) rfl rfl ?_)
 all_goals first|exact decide_eq_decide.2 (by omega)|exact (decide_eq_false (by omega)).symm⟩
instance f_fromrat(a:Rat):DenI Tryz.prog 34 [R a] (rz a≤10000000) (Ov (fromR a)):=⟨λhp=>by
 refine den_of (τ:=tab) tab_ok mixed_ Tryz.func34 rfl (by kernel_rfl) (by kernel_rfl) (by kernel_rfl) ?_
 repeat' ((try (conv=>whnf));first
  |refine call_0 ?_
  |refine call_i ?_ ?_
  |(with_reducible refine onB_t ?_)
  |(with_reducible refine onB_f ?_)
  |(with_reducible refine onB_d (λ_=>?_) (λ_=>?_))
  |(with_reducible refine onB_n (λ_=>?_) (λ_=>?_))
  |refine OnB.mk (λ_=>?_) (λ_=>?_)
  |refine obl_i ?_ ?_
  |refine Drw.mk (by kernel_rfl) ?_
  |refine mks_i ?_ ?_
  |refine slp_i ?_ ?_
  |(with_reducible refine elem_u ?_ ?_)
  |(with_reducible refine elem_0 ?_)
  |(with_reducible refine elem_1 ?_)
  |refine Ends.mk ?_)
 all_goals (try refine Pr.mk ?_)
 all_goals first
  |exact ovN (fr_lo (by assumption))
  |exact ovN (fr_hi (by assumption))
  |(rename_i g1 g2;rw [if_pos g1,if_pos g2];rfl)
  |(have z1:=rz_mul a ((65536:Int):Rat);have z2:=rz_k;have z3:=rz_neg (a*((65536:Int):Rat));have z4:=sz_floor (-(a*((65536:Int):Rat)));omega)⟩
instance f_add(a b c d:Int):DenI Tryz.prog 37 [Iv a b,Iv c d] (-2305843009213693952≤a∧a≤2305843009213693952∧-2305843009213693952≤b∧b≤2305843009213693952∧-2305843009213693952≤c∧c≤2305843009213693952∧-2305843009213693952≤d∧d≤2305843009213693952) (Ov (addI (a,b) (c,d))):=⟨λhp=>by
 refine den_of (τ:=tab) tab_ok mixed_ Tryz.func37 rfl (by kernel_rfl) (by kernel_rfl) (by kernel_rfl) ?_
 repeat' ((try (conv=>whnf));first
  |refine call_0 ?_
  |refine call_i ?_ ?_
  |(with_reducible refine onB_t ?_)
  |(with_reducible refine onB_f ?_)
  |(with_reducible refine onB_d (λ_=>?_) (λ_=>?_))
  |(with_reducible refine onB_n (λ_=>?_) (λ_=>?_))
  |refine OnB.mk (λ_=>?_) (λ_=>?_)
  |refine obl_i ?_ ?_
  |refine Drw.mk (by kernel_rfl) ?_
  |refine mks_i ?_ ?_
  |refine slp_i ?_ ?_
  |(with_reducible refine elem_u ?_ ?_)
  |(with_reducible refine elem_0 ?_)
  |(with_reducible refine elem_1 ?_)
  |refine Ends.mk ?_)
 all_goals (try refine Pr.mk ?_)
 rw [wi64 (by omega) (by omega),wi64 (by omega) (by omega)];rfl⟩
instance f_root(n:Int):DenI Tryz.prog 73 [.int .i64 n] (0≤n∧n≤2305843009213693952) (.tup [.int .i64 (rt n),.bool (decide (rt n*rt n=n*65536))]):=⟨λhp=>by
 refine den_of (τ:=tab) tab_ok mixed_ Tryz.func73 rfl (by kernel_rfl) (by kernel_rfl) (by kernel_rfl) ?_
 repeat' ((try (conv=>whnf));first
  |refine call_0 ?_
  |refine call_i ?_ ?_
  |(with_reducible refine onB_t ?_)
  |(with_reducible refine onB_f ?_)
  |(with_reducible refine onB_d (λ_=>?_) (λ_=>?_))
  |(with_reducible refine onB_n (λ_=>?_) (λ_=>?_))
  |refine OnB.mk (λ_=>?_) (λ_=>?_)
  |refine obl_i ?_ ?_
  |refine Drw.mk (by kernel_rfl) ?_
  |refine mks_i ?_ ?_
  |refine slp_i ?_ ?_
  |(with_reducible refine elem_u ?_ ?_)
  |(with_reducible refine elem_0 ?_)
  |(with_reducible refine elem_1 ?_)
  |refine Ends.mk ?_)
 all_goals (try refine Pr.mk ?_)
 all_goals (have hn:=rt_lim hp.1 hp.2;have h0:0=0:=rfl)
 all_goals (try simp only [rt_if,cmpI_eq0])
 all_goals first
  |exact ibE (if_pos (show -9223372036854775808≤rt n∧rt n≤9223372036854775807 by omega)) rfl
  |omega
  |(have z1:=sz_mul n 65536;have z2:=szl n (by omega) (by omega);have z3:=szl 65536 (by omega) (by omega);have z4:=szl (rt n) (by omega) (by omega);omega)⟩
instance f_sqrt(l h:Int):DenI Tryz.prog 35 [Iv l h] (l≤h∧-2305843009213693952≤l∧l≤2305843009213693952∧-2305843009213693952≤h∧h≤2305843009213693952) (Ov (sqrtI (l,h))):=⟨λhp=>by
 refine den_of (τ:=tab) tab_ok mixed_ Tryz.func35 rfl (by kernel_rfl) (by kernel_rfl) (by kernel_rfl) ?_
 repeat' ((try (conv=>whnf));first
  |refine call_0 ?_
  |refine call_i ?_ ?_
  |(with_reducible refine onB_t ?_)
  |(with_reducible refine onB_f ?_)
  |(with_reducible refine onB_d (λ_=>?_) (λ_=>?_))
  |(with_reducible refine onB_n (λ_=>?_) (λ_=>?_))
  |refine OnB.mk (λ_=>?_) (λ_=>?_)
  |refine obl_i ?_ ?_
  |refine Drw.mk (by kernel_rfl) ?_
  |refine mks_i ?_ ?_
  |refine slp_i ?_ ?_
  |(with_reducible refine elem_u ?_ ?_)
  |(with_reducible refine elem_0 ?_)
  |(with_reducible refine elem_1 ?_)
  |refine Ends.mk ?_)
 all_goals (try refine Pr.mk ?_)
 all_goals (try rw [rt_fold] at *)
 all_goals first
  |exact ovN (if_pos (by assumption))
  |exact rt_ex (by assumption) (by assumption)
  |(have hn:=rt_lim (n:=h) (by omega) (by omega);rw [wi64 (by omega) (by omega)];exact rt_up (by assumption) (by assumption))
  |(constructor<;>omega)⟩
instance f_mul(a b c d:Int):DenI Tryz.prog 36 [Iv a b,Iv c d] (-2305843009213693952≤a∧a≤2305843009213693952∧-2305843009213693952≤b∧b≤2305843009213693952∧-2305843009213693952≤c∧c≤2305843009213693952∧-2305843009213693952≤d∧d≤2305843009213693952) (Ov (mulI (a,b) (c,d))):=⟨λhp=>by
 refine den_of (τ:=tab) tab_ok mixed_ Tryz.func36 rfl (by kernel_rfl) (by kernel_rfl) (by kernel_rfl) ?_
 all_goals (repeat' ((try rw [w01]);(try rw [w11]);(try (conv=>whnf));first
  |refine call_0 ?_
  |refine call_i ?_ ?_
  |(with_reducible refine onB_t ?_)
  |(with_reducible refine onB_f ?_)
  |refine onB_yes rfl ?_
  |refine onB_no rfl ?_
  |(with_reducible refine onB_d (λ_=>?_) (λ_=>?_))
  |(with_reducible refine onB_n (λ_=>?_) (λ_=>?_))
  |refine OnB.mk (λ_=>?_) (λ_=>?_)
  |refine obl_i ?_ ?_
  |refine Drw.mk (by kernel_rfl) ?_
  |refine mks_i ?_ ?_
  |refine slp_i ?_ ?_
  |(with_reducible refine elem_u ?_ ?_)
  |(with_reducible refine elem_0 ?_)
  |(with_reducible refine elem_1 ?_)
  |refine Sw.Loop.unroll ?_
  |refine Ends.mk ?_))
 all_goals (try refine Pr.mk ?_)
 all_goals (try simp only [min_fold,max_fold])
 all_goals first
  |exact ovN (mul_none (.inl rfl) (.inl rfl) (by with_reducible assumption))
  |exact ovN (mul_none (.inl rfl) (.inr rfl) (by with_reducible assumption))
  |exact ovN (mul_none (.inr rfl) (.inl rfl) (by with_reducible assumption))
  |exact ovN (mul_none (.inr rfl) (.inr rfl) (by with_reducible assumption))
  |(rename_i g1 g2 g3 g4;exact mul_some g1 g2 g3 g4)
  |(constructor<;>constructor<;>omega)⟩
instance f_root2(a b c:Rat):DenI Tryz.prog 12 [Q3 a b c] (rz a≤100000∧rz b≤100000∧rz c≤100000) (Ov (rootI a b c)):=⟨λhp=>by
 refine den_of (τ:=tab) tab_ok mixed_ Tryz.func12 rfl (by kernel_rfl) (by kernel_rfl) (by kernel_rfl) ?_
 repeat' ((try (conv=>whnf));first
  |refine call_0 ?_
  |refine call_i ?_ ?_
  |(with_reducible refine onB_t ?_)
  |(with_reducible refine onB_f ?_)
  |(with_reducible refine onB_d (λ_=>?_) (λ_=>?_))
  |(with_reducible refine onB_n (λ_=>?_) (λ_=>?_))
  |refine OnB.mk (λ_=>?_) (λ_=>?_)
  |refine obl_i ?_ ?_
  |refine Drw.mk (by kernel_rfl) ?_
  |refine mks_i ?_ ?_
  |refine slp_i ?_ ?_
  |(with_reducible refine elem_u ?_ ?_)
  |(with_reducible refine elem_0 ?_)
  |(with_reducible refine elem_1 ?_)
  |refine Ends.mk ?_)
 all_goals (try refine Pr.mk ?_)
 all_goals (try simp only [Prod.eta] at *)
 all_goals first
  |omega
  |(have z1:=ivB_from a;have z2:=ivB_from b;have z3:=ivB_from c;have z4:=ivB_sqrt z3;have z5:=ivB_mul ((fromR b).getD (0,0)) ((sqrtI ((fromR c).getD (0,0))).getD (0,0));unfold ivB at *;omega)
  |refine ovN1 ?_
  |(show Ov (fromR a)=_;refine congrArg Ov ?_)
  |(show Ov (addI _ _)=_;refine congrArg Ov ?_)
 all_goals (unfold rootI;(try simp only [sgnR_lt0,sgnR_eq0] at *);rcases h1:fromR a with _|x<;>rcases h2:fromR b with _|y<;>rcases h3:fromR c with _|z<;>simp_all)
 all_goals (rcases h4:sqrtI z with _|s<;>simp_all)
 all_goals (rcases h5:mulI y s with _|p<;>simp_all)⟩
instance c_nan(n:Int):DenI Tryz.prog 95 [.int .i64 n] (True) (.bool false):=⟨λhp=>by
 refine den_of (τ:=tab) tab_ok mixed_ Tryz.func95 rfl (by kernel_rfl) (by kernel_rfl) (by kernel_rfl) ?_
 all_goals (repeat' ((try (conv=>whnf));first
  |refine call_0 ?_
  |refine call_i ?_ ?_
  |refine call_c ?_ (λ_=>?_) (λ_=>?_)
  |(with_reducible refine onB_t ?_)
  |(with_reducible refine onB_f ?_)
  |(with_reducible refine onB_d (λ_=>?_) (λ_=>?_))
  |(with_reducible refine onB_n (λ_=>?_) (λ_=>?_))
  |refine OnB.mk (λ_=>?_) (λ_=>?_)
  |refine obl_i ?_ ?_
  |refine Drw.mk (by kernel_rfl) ?_
  |refine mks_i ?_ ?_
  |refine slp_i ?_ ?_
  |(with_reducible refine elem_u ?_ ?_)
  |(with_reducible refine elem_0 ?_)
  |(with_reducible refine elem_1 ?_)
  |refine Ends.mk ?_))
 all_goals (try refine Pr.mk ?_)
 all_goals first
  |(refine bE ?_;simp)
  |skip⟩
instance c_cmp(m n:Int):DenI Tryz.prog 52 [.int .i64 m,.int .i64 n] (True) (.int .i64 (cmpI m n)):=⟨λhp=>by
 refine den_of (τ:=tab) tab_ok mixed_ Tryz.func52 rfl (by kernel_rfl) (by kernel_rfl) (by kernel_rfl) ?_
 all_goals (repeat' ((try (conv=>whnf));first
  |refine call_0 ?_
  |refine call_i ?_ ?_
  |refine call_c ?_ (λ_=>?_) (λ_=>?_)
  |(with_reducible refine onB_t ?_)
  |(with_reducible refine onB_f ?_)
  |(with_reducible refine onB_d (λ_=>?_) (λ_=>?_))
  |(with_reducible refine onB_n (λ_=>?_) (λ_=>?_))
  |refine OnB.mk (λ_=>?_) (λ_=>?_)
  |refine obl_i ?_ ?_
  |refine Drw.mk (by kernel_rfl) ?_
  |refine mks_i ?_ ?_
  |refine slp_i ?_ ?_
  |(with_reducible refine elem_u ?_ ?_)
  |(with_reducible refine elem_0 ?_)
  |(with_reducible refine elem_1 ?_)
  |refine Ends.mk ?_))
 all_goals (try refine Pr.mk ?_)
 all_goals first
  |(refine iE ?_;unfold cmpI;(repeat' split)<;>omega)
  |skip⟩
instance r_cmp(a b:Rat):DenI Tryz.prog 18 [R a,R b] (rz a≤10000000∧rz b≤10000000) (.int .i64 (cmpR a b)):=⟨λhp=>by
 have i_a:RzB a 10000000:=⟨hp.1⟩
 have i_b:RzB b 10000000:=⟨hp.2⟩
 all_goals refine den_of (τ:=tab) tab_ok mixed_ Tryz.func18 rfl (by kernel_rfl) (by kernel_rfl) (by kernel_rfl) ?_
 all_goals (repeat' ((try (conv=>whnf));first
  |refine call_0 ?_
  |refine call_i ?_ ?_
  |refine call_c ?_ (λ_=>?_) (λ_=>?_)
  |(with_reducible refine onB_t ?_)
  |(with_reducible refine onB_f ?_)
  |(with_reducible refine onB_d (λ_=>?_) (λ_=>?_))
  |(with_reducible refine onB_n (λ_=>?_) (λ_=>?_))
  |refine OnB.mk (λ_=>?_) (λ_=>?_)
  |refine obl_i ?_ ?_
  |refine Drw.mk (by kernel_rfl) ?_
  |refine mks_i ?_ ?_
  |refine slp_i ?_ ?_
  |(with_reducible refine elem_u ?_ ?_)
  |(with_reducible refine elem_0 ?_)
  |(with_reducible refine elem_1 ?_)
  |refine Ends.mk ?_))
 all_goals (try refine Pr.mk ?_)
 all_goals (try simp only [nrm_] at *)
 all_goals first
  |with_reducible exact cmp_sg (by assumption)
  |rfl
  |((repeat' apply And.intro)<;>first|assumption|exact rzb (by omega)|exact szb (by omega)|exact Int.mul_ne_zero (den_ne _) (den_ne _))
  |skip⟩
instance r_div(a b:Rat):DenC Tryz.prog 231 [R a,R b] (rz a≤10000000∧rz b≤10000000) (b=0) (.tup [ZR,.int .i64 6]) (.tup [R (a / b),.int .i64 0]):=⟨denC λhp q e1 e2=>by
 have i_a:RzB a 10000000:=⟨hp.1⟩
 have i_b:RzB b 10000000:=⟨hp.2⟩
 all_goals refine den_of (τ:=tab) tab_ok mixed_ Tryz.func231 rfl (by kernel_rfl) (by kernel_rfl) (by kernel_rfl) ?_
 all_goals (repeat' ((try (conv=>whnf));first
  |refine call_0 ?_
  |refine call_i ?_ ?_
  |refine call_c ?_ (λ_=>?_) (λ_=>?_)
  |(with_reducible refine onB_t ?_)
  |(with_reducible refine onB_f ?_)
  |(with_reducible refine onB_d (λ_=>?_) (λ_=>?_))
  |(with_reducible refine onB_n (λ_=>?_) (λ_=>?_))
  |refine OnB.mk (λ_=>?_) (λ_=>?_)
  |refine obl_i ?_ ?_
  |refine Drw.mk (by kernel_rfl) ?_
  |refine mks_i ?_ ?_
  |refine slp_i ?_ ?_
  |(with_reducible refine elem_u ?_ ?_)
  |(with_reducible refine elem_0 ?_)
  |(with_reducible refine elem_1 ?_)
  |refine Ends.mk ?_))
 all_goals (try refine Pr.mk ?_)
 all_goals (try simp only [nrm_] at *)
 all_goals first
  |(rw [e1 (by assumption)];rfl)
  |with_reducible exact div_1 (by assumption) e2
  |(refine ⟨den_num1 (by assumption), ?_, ?_⟩<;>exact szb (by omega))
  |((repeat' apply And.intro)<;>first|assumption|exact rzb (by omega)|exact szb (by omega)|exact Int.mul_ne_zero (den_ne _) (den_ne _))
  |skip⟩
instance r_frac(n d:Int):DenI Tryz.prog 229 [.int .i64 n,.int .i64 d] ((-9223372036854775808≤n∧n≤9223372036854775807)∧-9223372036854775808≤d∧d≤9223372036854775807) (R ((n:Rat) / d)):=⟨λhp=>by
 refine den_of (τ:=tab) tab_ok mixed_ Tryz.func229 rfl (by kernel_rfl) (by kernel_rfl) (by kernel_rfl) ?_
 all_goals (repeat' ((try (conv=>whnf));first
  |refine call_0 ?_
  |refine call_i ?_ ?_
  |refine call_c ?_ (λ_=>?_) (λ_=>?_)
  |(with_reducible refine onB_t ?_)
  |(with_reducible refine onB_f ?_)
  |(with_reducible refine onB_d (λ_=>?_) (λ_=>?_))
  |(with_reducible refine onB_n (λ_=>?_) (λ_=>?_))
  |refine OnB.mk (λ_=>?_) (λ_=>?_)
  |refine obl_i ?_ ?_
  |refine Drw.mk (by kernel_rfl) ?_
  |refine mks_i ?_ ?_
  |refine slp_i ?_ ?_
  |(with_reducible refine elem_u ?_ ?_)
  |(with_reducible refine elem_0 ?_)
  |(with_reducible refine elem_1 ?_)
  |refine Ends.mk ?_))
 all_goals (try refine Pr.mk ?_)
 all_goals (try simp only [nrm_] at *)
 all_goals first
  |rfl
  |omega
  |(subst d;exact congrArg R (frac_0 n))
  |(have z1:=sz_64 hp.1.1 hp.1.2;have z2:=sz_64 hp.2.1 hp.2.2;omega)
  |((repeat' apply And.intro)<;>first|assumption|exact rzb (by omega)|exact szb (by omega)|exact Int.mul_ne_zero (den_ne _) (den_ne _))
  |skip⟩
instance s_perf(a:Int):DenI Tryz.prog 91 [Z a] (sz a≤10000000) (.tup [Z (if a<0 then 0 else (isq a.natAbs:Nat)),.bool (isSq a)]):=⟨λhp=>by
 have i_a:SzB a 10000000:=⟨hp⟩
 all_goals refine den_of (τ:=tab) tab_ok mixed_ Tryz.func91 rfl (by kernel_rfl) (by kernel_rfl) (by kernel_rfl) ?_
 all_goals (repeat' ((try (conv=>whnf));first
  |refine call_0 ?_
  |refine call_i ?_ ?_
  |refine call_c ?_ (λ_=>?_) (λ_=>?_)
  |(with_reducible refine onB_t ?_)
  |(with_reducible refine onB_f ?_)
  |(with_reducible refine onB_d (λ_=>?_) (λ_=>?_))
  |(with_reducible refine onB_n (λ_=>?_) (λ_=>?_))
  |refine OnB.mk (λ_=>?_) (λ_=>?_)
  |refine obl_i ?_ ?_
  |refine Drw.mk (by kernel_rfl) ?_
  |refine mks_i ?_ ?_
  |refine slp_i ?_ ?_
  |(with_reducible refine elem_u ?_ ?_)
  |(with_reducible refine elem_0 ?_)
  |(with_reducible refine elem_1 ?_)
  |refine Ends.mk ?_))
 all_goals (try refine Pr.mk ?_)
 all_goals (try simp only [nrm_] at *)
 all_goals first
  |with_reducible exact perf_1 (by assumption)
  |with_reducible exact perf_2 (by assumption)
  |((repeat' apply And.intro)<;>first|assumption|exact rzb (by omega)|exact szb (by omega)|exact Int.mul_ne_zero (den_ne _) (den_ne _))
  |skip⟩
instance s_make(n d:Int):DenC Tryz.prog 330 [Z n,Z d] (sz n≤500000000∧sz d≤500000000) (d=0) (.tup [ZR,.int .i64 6]) (.tup [R ((n:Rat) / d),.int .i64 0]):=⟨denC λhp q e1 e2=>by
 have i_n:SzB n 500000000:=⟨hp.1⟩
 have i_d:SzB d 500000000:=⟨hp.2⟩
 all_goals refine den_of (τ:=tab) tab_ok mixed_ Tryz.func330 rfl (by kernel_rfl) (by kernel_rfl) (by kernel_rfl) ?_
 all_goals (repeat' ((try (conv=>whnf));first
  |refine call_0 ?_
  |refine call_i ?_ ?_
  |refine call_c ?_ (λ_=>?_) (λ_=>?_)
  |(with_reducible refine onB_t ?_)
  |(with_reducible refine onB_f ?_)
  |(with_reducible refine onB_d (λ_=>?_) (λ_=>?_))
  |(with_reducible refine onB_n (λ_=>?_) (λ_=>?_))
  |refine OnB.mk (λ_=>?_) (λ_=>?_)
  |refine obl_i ?_ ?_
  |refine Drw.mk (by kernel_rfl) ?_
  |refine mks_i ?_ ?_
  |refine slp_i ?_ ?_
  |(with_reducible refine elem_u ?_ ?_)
  |(with_reducible refine elem_0 ?_)
  |(with_reducible refine elem_1 ?_)
  |refine Ends.mk ?_))
 all_goals (try refine Pr.mk ?_)
 all_goals (try simp only [nrm_] at *)
 all_goals first
  |(rw [e1 (by assumption)];rfl)
  |(rw [e2 (by assumption)];rfl)
  |(refine ⟨by assumption, ?_, ?_⟩<;>exact szb (by omega))
  |((repeat' apply And.intro)<;>first|assumption|exact rzb (by omega)|exact szb (by omega)|exact Int.mul_ne_zero (den_ne _) (den_ne _))
  |skip⟩
instance s_div(a b:Rat):DenC Tryz.prog 289 [R a,R b] (rz a≤10000000∧rz b≤10000000) (b=0) (.tup [ZR,.int .i64 6]) (.tup [R (a / b),.int .i64 0]):=⟨denC λhp q e1 e2=>by
 have i_a:RzB a 10000000:=⟨hp.1⟩
 have i_b:RzB b 10000000:=⟨hp.2⟩
 all_goals refine den_of (τ:=tab) tab_ok mixed_ Tryz.func289 rfl (by kernel_rfl) (by kernel_rfl) (by kernel_rfl) ?_
 all_goals (repeat' ((try (conv=>whnf));first
  |refine call_0 ?_
  |refine call_i ?_ ?_
  |refine call_c ?_ (λ_=>?_) (λ_=>?_)
  |(with_reducible refine onB_t ?_)
  |(with_reducible refine onB_f ?_)
  |(with_reducible refine onB_d (λ_=>?_) (λ_=>?_))
  |(with_reducible refine onB_n (λ_=>?_) (λ_=>?_))
  |refine OnB.mk (λ_=>?_) (λ_=>?_)
  |refine obl_i ?_ ?_
  |refine Drw.mk (by kernel_rfl) ?_
  |refine mks_i ?_ ?_
  |refine slp_i ?_ ?_
  |(with_reducible refine elem_u ?_ ?_)
  |(with_reducible refine elem_0 ?_)
  |(with_reducible refine elem_1 ?_)
  |refine Ends.mk ?_))
 all_goals (try refine Pr.mk ?_)
 all_goals (try simp only [nrm_] at *)
 all_goals first
  |(rw [e1 (den_num0 (by assumption))];rfl)
  |with_reducible exact div_2 (by assumption) e2
  |((repeat' apply And.intro)<;>first|assumption|exact rzb (by omega)|exact szb (by omega)|exact Int.mul_ne_zero (den_ne _) (den_ne _))
  |skip⟩
instance s_sqrt(a:Rat):DenC Tryz.prog 46 [R a] (rz a≤1000000) (isSqR a=true) (.tup [R (sqR a),.bool true]) (.tup [ZR,.bool false]):=⟨denC λhp q e1 e2=>by
 have i_a:RzB a 1000000:=⟨hp⟩
 all_goals refine den_of (τ:=tab) tab_ok mixed_ Tryz.func46 rfl (by kernel_rfl) (by kernel_rfl) (by kernel_rfl) ?_
 all_goals (repeat' ((try (conv=>whnf));first
  |refine call_0 ?_
  |refine call_i ?_ ?_
  |refine call_c ?_ (λ_=>?_) (λ_=>?_)
  |(with_reducible refine onB_t ?_)
  |(with_reducible refine onB_f ?_)
  |(with_reducible refine onB_d (λ_=>?_) (λ_=>?_))
  |(with_reducible refine onB_n (λ_=>?_) (λ_=>?_))
  |refine OnB.mk (λ_=>?_) (λ_=>?_)
  |refine obl_i ?_ ?_
  |refine Drw.mk (by kernel_rfl) ?_
  |refine mks_i ?_ ?_
  |refine slp_i ?_ ?_
  |(with_reducible refine elem_u ?_ ?_)
  |(with_reducible refine elem_0 ?_)
  |(with_reducible refine elem_1 ?_)
  |refine Ends.mk ?_))
 all_goals (try refine Pr.mk ?_)
 all_goals (try simp only [nrm_] at *)
 all_goals first
  |with_reducible exact sqrt_1 (by assumption) (by assumption) e1
  |(rw [e2 (sqrt_0 (.inl (by assumption)))];rfl)
  |(rw [e2 (sqrt_0 (.inr (by assumption)))];rfl)
  |((repeat' apply And.intro)<;>first|assumption|exact rzb (by omega)|exact szb (by omega)|exact Int.mul_ne_zero (den_ne _) (den_ne _))
  |skip⟩
end Go.Proofs.YtbbfmlhkgceabaaGreat
