/-
  Rules of the abstract run, plain laws, and what functions answer, for the law TopMeetings.
  Conditions: none.
-/
import Derived.Test.YtdpkjhnfklkkjaaGreatM10
set_option linter.all false
namespace Go.Sw
open Go Go.RowKit
section
variable {P:Program} [Wld P] [Kp] {N:Nat} {w0:World} {X0:List Nat} {S:List Bx} {M:MM} {e:Env} {b:aZ} {a:Act} {w:World}
theorem Sta.varo(h:Sta N w0 X0 S M a w e b){i:Nat}{T:TypeId}{us:List Value}{cs:List Cell}(hi:ld i b=none)(hie:mention [i] e=false)(hib:jE [i] b=false)(hic:i ∉ lJ cs)(hiN:DL N i)
 (hO:RepO w (bl S++X0) M us cs):Conc N w0 X0 ((i,.ptr i 0)::e) ((i,.varo cs)::b) (a.put (some i) (.pointer (some ⟨w.heap.size,0,none⟩))) (w.alloc (.cells us.toArray T)):=by
 have hms:=h.ms.alloc (i:=i) (m:=⟨true,true,some w.heap.size,T,0,0,0,us,none⟩) rfl rfl rfl rfl;have hext:Ext w (bl S++X0) (w.alloc (.cells us.toArray T)) (bl ((w.heap.size,T,us.toArray)::S)++X0):=Ext.alloc _ _ _
 have hM:∀c,c≠i->∀m,M c=some m->(M.set i ⟨true,true,some w.heap.size,T,0,0,0,us,none⟩) c=some m:=λc hc m hm=>by
  rw[MM.set_other _ _ hc];exact hm
 refine⟨_,_,hms,h.x0,by simp[Act.put,h.sz],⟨BN h.df.1 hiN,h.df.2.ext hext⟩,λt v hv=>?_,λc x hx=>?_⟩
 .by_cases hti:i=t
  .subst hti;rw[dn]at hv;cases hv;rw[jG _ h.sz hiN.1];exact .ptr (MM.set_same _ _ _) rfl rfl
  .rw[dD _ _ hti]at hv;rw[iH _ hti];exact(h.env t v hv).ext hext λj hj m hm=>⟨m,hM j (λe=>by subst e;exact oP hie hv j hj η) m hm,Comp.refl m⟩
 .by_cases hci:i=c
  .subst hci;rw[dn]at hx;cases hx;exact⟨_,MM.set_same _ _ _,rfl,rfl,⟨_,rfl⟩,hO.ext hext λd hd mc hmc=>⟨mc,hM d (λe=>by subst e;exact hic hd) mc hmc,Comp.refl mc⟩⟩
  .rw[dD _ _ hci]at hx;obtain⟨m,h1,h2⟩:=h.box c x hx;exact⟨m,hM c (λe=>hci e.symm) m h1,h2.ext hext λd hd mc hmc=>⟨mc,hM d (λe=>by subst e;exact nS hib c x hx d hd η) mc hmc,Comp.refl mc⟩⟩
end
def vY:Nat->Code->Code
 |n+1,.seq x y => .seq x (vY n y)
 |_,_ => .skip
def mJ:Nat->Code->Code
 |n+1,.seq x y=>mJ n y
 |_,c=>c
section
variable {P:Program} [Wld P] [Kp] [Gr] {τ:Tab} {N:Nat} {w0:World} {X0:List Nat} [hwo:WOk P w0]
theorem jI(hτ:dQ P τ=true)(hm:P.follows .mixedOrders=true):∀(n:Nat) (c:Code) {QA:Ex->Env->aZ->Prop} {Q:Exit->Act->World->Prop} {e:Env} {b:aZ} {a:Act} {w:World},fV N (vY n c)=true->nH (Den P) τ (vY n c) QA e b->Conc N w0 X0 e b a w ->
 (∀e b a w,QA .normal e b->Conc N w0 X0 e b a w->(mJ n c).wp P Q a w)->(∀x e b a w,x ≠ .normal->QA x e b->Conc N w0 X0 e b a w->Q x.x a w)->c.wp P Q a w
 |0,c,QA,Q,e,b,a,w,ht,hk,hc,h1,h2=>by
  have hk':QA .normal e b:=by cases c<;>exact hk
  have:=h1 e b a w hk' hc;cases c<;>exact this
 |n+1,c,QA,Q,e,b,a,w,ht,hk,hc,h1,h2=>by
  cases c with
  |seq x y =>
   simp only[vY,fV,gX]at ht;refine bI (iL hτ hm x ht.1 hk hc λz e b a w hz hc=>?_);cases z with
   |normal=>exact dW (jI hτ hm n y ht.2 hz hc h1 h2)
   |ret=>exact XI (h2 .ret _ _ _ _ (by intro h;cases h) hz hc)
   |exit id=>exact rZ (h2 (.exit id) _ _ _ _ (by intro h;cases h) hz hc)
  |_=>exact h1 e b a w hk hc
end
section
variable {P:Program} [Wld P] [Kp] {N:Nat} {w0:World} {X0:List Nat} {e:Env} {b:aZ} {a:Act} {w:World}
end
section
variable {P:Program} [Wld P] [Kp] {N:Nat} {w0:World} {X0:List Nat} {e:Env} {b:aZ} {a:Act} {w:World}
theorem RepS.cut{w:World}{X:List Nat}{s:Nat}{us:List (List Value)}{cs:List (List Cell)}(h:RepS w X s us cs)(k:Nat):RepS w X s (us.take k) (cs.take k) :=
 ⟨by simp[h.len],λu hu=>h.sz u (qbL hu),λj u c x y=>by
  rw[Pz]at x y;split at x
  .rename_i hj;rw[if_pos hj]at y;exact h.get j u c x y
  .cases x⟩
theorem Conc.nilS(h:Conc N w0 X0 e b a w){t s:Nat}(ht:ld t e=some (.c (.v (.slice none 0 0)))):Conc N w0 X0 ((t,.c (.sl s []))::e) b a w:=by
 obtain⟨S,M,h⟩:=h;refine⟨S,M,h.ms,h.x0,h.sz,h.df,λc v hv=>?_,h.box⟩
 by_cases htc:t=c
 .subst htc;rw[dn]at hv;cases hv;rw[(h.env t _ ht).v_];exact .d (.c (RepC.nil _ _ _))
 .rw[dD _ _ htc]at hv;exact h.env c v hv
theorem Conc.shrink(h:Conc N w0 X0 e b a w){t i T s k d:Nat}{es:List (List Cell)}{e':Env}(ht:ld t e=some (.gs i es.length))(hb:ld i b=some (.grow T s es))(hk:k<=es.length)(hd:DL N d)(hs:SubE e' e)(hm:mention [i] e'=false)(hmb:jE [i] b=false):
 ∃A cap,a.tmps.getD t undef=.slice A es.length cap/\es.length<=cap/\Conc N w0 X0 ((d,.gs i k)::e') (up i (.grow T s (es.take k)) b) (a.put (some d) (.slice A k cap)) w:=by
 obtain⟨S,M,h⟩:=h;obtain⟨m,h1,q1,q2,q3,⟨q4,q4'⟩,q5,q6⟩:=h.box i _ hb
 have hu:a.tmps.getD t undef=hdr m:=by
  have hv:=h.env t _ ht;generalize a.tmps.getD t undef=u at hv;cases hv with
  |gs hm' hv' hle h' hu'=>rw[h1]at hm';cases hm';exact h' q5
  |d hd=>cases hd
 have hcap:es.length<=m.cap:=by
  rcases q6 with⟨_,q,_⟩|⟨g,uss,rest,_,_,_,_,_,q⟩
  .rw[q];exact Au _
  .omega
 refine⟨m.g.map λg=>⟨g,0,none⟩,m.cap,by rw[hu,<-q5];rfl,hcap,S,M.set i { m with n:=k },⟨h.ms.st,h.ms.gh.set (λx hx=>⟨m,h1,hx⟩) (λ_ _ _ _ _ _ _ h=>h) (λ_ _ _ h=>h) (λg' k1 k2 => .inl ⟨m,h1,k1,k2⟩),λc mc hc hco gc hgc=>?_,λc c' mc mc' gc k1 k2 k3 k4 k5 k6=>?_⟩,h.x0,by simp[Act.put,h.sz],⟨BN h.df.1 hd,h.df.2⟩,λc v hv=>?_,λc x hx=>?_⟩
 .by_cases hci:c=i
  .subst hci;rw[MM.set_same]at hc;cases hc;exact h.ms.inS c m h1 hco gc hgc
  .rw[MM.set_other _ _ hci]at hc;exact h.ms.inS c mc hc hco gc hgc
 .by_cases hci:c=i
  .subst hci;rw[MM.set_same]at k1;cases k1
   by_cases hci':c'=c
   .exact hci'.symm
   .rw[MM.set_other _ _ hci']at k2;exact h.ms.inj c c' m mc' gc h1 k2 k3 k4 k5 k6
  .rw[MM.set_other _ _ hci]at k1
   by_cases hci':c'=i
   .subst hci';rw[MM.set_same]at k2;cases k2;exact h.ms.inj c c' mc m gc k1 h1 k3 k4 k5 k6
   .rw[MM.set_other _ _ hci']at k2;exact h.ms.inj c c' mc mc' gc k1 k2 k3 k4 k5 k6
 .by_cases hdc:d=c
  .subst hdc;rw[dn]at hv;cases hv;rw[jG _ h.sz hd.1];exact .gs (MM.set_same _ _ _) q1 (jg _) (λ_=>rfl) ⟨_,_,rfl⟩
  .rw[dD _ _ hdc]at hv;rw[iH _ hdc];refine(h.env c v (hs.get hv)).ext (Ext.refl _ _) λj hj mj hmj=>⟨mj, ?_,Comp.refl mj⟩
   have hne:j≠i:=λe=>by subst e;exact oP hm hv j hj η
   rw[MM.set_other _ _ hne];exact hmj
 .rw[qY]at hx
  by_cases hci:c=i
  .subst hci;rw[if_pos rfl]at hx;cases hx;refine⟨_,MM.set_same _ _ _,q1,q2,q3,⟨q4,q4'⟩,κ, ?_⟩;rcases q6 with⟨z1,z2,z3⟩|⟨g,uss,rest,z1,z2,z3,z4,z5,z6⟩
   .exact .inl ⟨z1,by rw[z2,List.take_nil],z3⟩
   .refine .inr ⟨g,uss.take k,(uss.drop k).flatten++rest,z1, ?_,z3.cut k,z4,z5,by show k<=m.cap;omega⟩;show m.us=_;rw[z2,<-S9,<-List.flatten_append,RP]
  .rw[if_neg hci]at hx;obtain⟨mc,k1,k2⟩:=h.box c x hx;refine⟨mc,by rw[MM.set_other _ _ hci];exact k1,k2.ext (Ext.refl _ _) λj hj mj hmj=>⟨mj, ?_,Comp.refl mj⟩⟩;have hne:j≠i:=λe=>by subst e;exact nS hmb c x hx j hj η
   rw[MM.set_other _ _ hne];exact hmj
end
end Go.Sw
namespace Go.Proofs.YtdpkjhnfklkkjaaGreat
open Go Go.RowKit Go.Sw Go.Proofs.Tryz
set_option maxRecDepth 100000
set_option maxHeartbeats 16000000
instance(priority:=2000) agY(y R:Nat):DenI prog 254 [.c (.sl 1 ([cellsOf (.c (.v (u32 y)))]++(lim R).map λx=>[.v (u32 x)]))] (y<1000000000) (.c (dB (lim (y+1000000000*R)))):=⟨λhp=>by rw [<- NQ y R hp];exact (inferInstance:DenI prog 254 [.c (dB ([y]++lim R))] True (.c (dB (aG ([y]++lim R))))).den trivial⟩
instance amw(a:List Nat):DenI prog 312 [.c (dB a),.int .u32 (IntKind.u32.wrap 999999999)] (a.length<=1000000000000/\Lb a) (.c (dB (lim (val a*999999999)))):=⟨λhp=>by rw [show IntKind.u32.wrap 999999999=((999999999:Nat):Int) by decide];exact (inferInstance:DenI prog 312 [.c (dB a),.int .u32 ((999999999:Nat):Int)] _ _).den ⟨hp.1,hp.2,ψ⟩⟩
theorem acV{l:List Nat}(h:CanL l)(h2:l.length<=2):val l<1000000000000000000:=uj (by rw[h.eq];exact h2)
theorem Rf{m n:Nat}(h:m<18446744073709551616):IntKind.u64.wrap ((m:Int).tdiv (n:Int))=((m/n:Nat):Int):=by
 rw[kS ω,MW];exact mF (by have:=OU m n;omega)
theorem qsc{n:Nat}:IntKind.u64.wrap ((1000000000:Int).tdiv ((n:Int)+1))=((1000000000/(n+1):Nat):Int):=Rf (m:=1000000000) (n:=n+1) ψ
theorem SC{m n:Nat}(h:m<18446744073709551616):IntKind.u64.wrap ((m:Int)/(n:Int))=((m/n:Nat):Int):=by rw[MW];exact mF (by have:=OU m n;omega)
theorem zqE{n:Int}:IntKind.u64.wrap ((0:Int)/n)=((0:Nat):Int):=by rw[Int.zero_ediv];rfl
theorem Zl{m n:Nat}:(m:Int).tmod (n:Int)=((m%n:Nat):Int):=by
 rw[kR ω,NH]
def SV:Tab:=(2000000000,.flag)::tab
theorem sH:dQ prog SV=true:=ζ
theorem ad1(a b:List Nat)(h1:a.length<=1000000000)(h2:b.length<=1000000000)(hca:CanL a)(hcb:CanL b)(hpos:0<val b):Den prog 265 [.c (dB a),.c (dB b)] (.tup [.c (dB (lim (val a/val b))),.c (dB (lim (val a%val b)))]):=by
 have hbn:0<b.length:=by cases b with|nil=>simp[val]at hpos|cons _ _=>simp
 obtain⟨sc,hsc⟩:∃sc,sc=1000000000/(b.getD (b.length-1) 0+1):=⟨_,rfl⟩
 have hscB:=J6 hcb rfl hbn hsc;obtain⟨hsc0,_,hvn,hvtop,hvP⟩:=Fb (v:=lim (val b*sc)) hcb rfl hbn hsc (CanL.lim _) (by rw[aX]);rw[<-hvn]at hvtop;have hlu:=xw (a:=val a) hscB;rw[hca.eq]at hlu;have hbt:=hcb.1.getD (b.length-1);have hvt:=(bJ (val b*sc)).getD ((lim (val b*sc)).length-1);refine Den.of ⟨ζ,λw X vs ho hX hl hR=>?_⟩ rfl
 haveI:WOk prog w:=.of ho
 refine enter func265 rfl rfl (by rw[hl];rfl) λac hF=>?_
 have hc:=vM (N:=173) hX hl hR hF;refine jI (τ:=SV) sH dF 8 _ (QA:=λz e bx=>match z with|.normal=>SubE ([(8,.int .u32 (sc:Nat)),(9,.c (dB (lim (val b*sc)))),(10,.int .u64 ((lim (val b*sc)).getD ((lim (val b*sc)).length-1) 0:Nat)),(11,.c (.v (.slice none 0 0))),(12,.gs 64 (a.length+1)),(13,.c (dB (lim (val a*sc))))]) e/\SubB ([(64,.grow 209 1 ((List.replicate (a.length+1) 0).map λx=>[.v (u32 x)]))]) bx|z=>Hz SV Tryz.f265 [none,none] (.tup [.c (dB (lim (val a/val b))),.c (dB (lim (val a%val b)))]) z e bx) ζ ?_ hc (λe bx a0 w1 hq hc2=>?_) (λx e b a w hx hq hc=>?_)
 case refine_3=>cases x with|normal=>exact absurd rfl hx|_=>exact tq sH hq hc
 case refine_1 =>
  clear hc hF hR hl hX
  all_goals(repeat'((try(conv=>whnf));first
   |refine ak ?_ ?_|(with_reducible first|refine aN ?_|refine aI ?_|refine aO (λ_=>?_) (λ_=>?_))|refine aK ?_ ?_|(with_reducible refine au ?_ ?_)))
  all_goals(try apply zab)
  all_goals(try simp only[bW,jB]at *)
  all_goals(try(have ha18:=acV hca ω;have hb18:=acV hcb ω))
  all_goals(try((conv=>whnf);simp(disch:=omega) only[Rf,Zl,wu64,bG,dO,qsc,<-hsc]))
  all_goals(repeat'((try(conv=>whnf));first
   |refine ak ?_ ?_|refine aK ?_ ?_))
  all_goals(try apply zab)
  all_goals(try((conv=>whnf);simp(disch:=omega) only[Rf,Zl,wu64,bG,dO,qsc,<-hsc]))
  all_goals(repeat'((try(conv=>whnf));first
   |refine ak ?_ ?_|refine zac ζ ?_|apply zaa))
  all_goals(try apply zab)
  all_goals(try simp only[bW,jB]at *)
  all_goals(try((conv=>whnf);simp(disch:=omega) only[Rf,Zl,wu64,bG,dO,qsc,<-hsc]))
  all_goals(repeat'((try(conv=>whnf));first
   |refine ak ?_ ?_|refine aJ ?_ ?_|(with_reducible refine au ?_ ?_)))
  all_goals(try apply zab)
  all_goals(try simp(disch:=omega) only[bW,xB,dI,AO,bG,dO,wu64,zO,jB,Uo,kR,kS]at *)
  all_goals first
   |((conv=>whnf);refine⟨⟨rfl,rfl, ?_,rfl,rfl,rfl,trivial⟩,⟨lQ _ _,trivial⟩⟩;first|rfl|exact iS (mF ω))|(refine⟨ω,ω,ω⟩)|omega|rfl|exact⟨ω,hca.1,ω⟩|exact⟨ω,hcb.1,ω⟩|(have:=OU (val a) (val b);omega)|(have:=Nat.mod_le (val a) (val b);omega)
 obtain⟨he,hb⟩:=hq;replace hc:=(hc2.sub he hb).nilS (t:=11) (s:=1) rfl;clear he hb hc2 hF hR hl hX;replace hc:=hc.sub (e:=[(8,.int .u32 (sc:Nat)),(9,.c (dB (lim (val b*sc)))),(10,.int .u64 ((lim (val b*sc)).getD ((lim (val b*sc)).length-1) 0:Nat)),(11,.c (dB (lim 0))),(12,.gs 64 (a.length+1)),(13,.c (dB (lim (val a*sc))))]) (b:=[(64,.grow 209 1 ((List.replicate (a.length+1) 0).map λx=>[.v (u32 x)]))]) ⟨rfl,rfl,rfl,(by rw[kM];rfl),rfl,rfl,trivial⟩ ⟨rfl,trivial⟩;refine bI (bK ?_);refine Xh 3 (KZ (τ:=SV) sH (k:=λe bx=>SubE ((68,.gs 64 (a.length+1)) ::(70,.int .i64 ((lim (val a*sc)).length:Nat))::[(8,.int .u32 (sc:Nat)),(9,.c (dB (lim (val b*sc)))),(10,.int .u64 ((lim (val b*sc)).getD ((lim (val b*sc)).length-1) 0:Nat)),(11,.c (dB (lim 0))),(12,.gs 64 (a.length+1)),(13,.c (dB (lim (val a*sc))))]) e/\SubB ([(64,.grow 209 1 ((List.replicate (a.length+1) 0).map λx=>[.v (u32 x)]))]) bx) ?_ ζ ?_ hc)
 case refine_2 =>
  clear hc;exact⟨⟨rfl,(by show some (AV.int .i64 _)=some (AV.int .i64 _);rw[bW]),rfl,rfl,rfl,rfl,rfl,rfl,trivial⟩,⟨rfl,trivial⟩⟩
 clear hc;rintro e bx a2 w2 ⟨he,hb⟩ hc;replace hc:=hc.sub he hb;clear he hb;have hle:(lim (val a*sc)).length<=((List.replicate (a.length+1) 0).map λx=>[Cell.v (u32 x)]).length:=by rw[bW,AO];exact hlu
 obtain⟨A,cp,hv,hcp,hc2⟩:=hc.shrink (t:=68) (i:=64) (d:=71) (e':=[(8,.int .u32 (sc:Nat)),(9,.c (dB (lim (val b*sc)))),(10,.int .u64 ((lim (val b*sc)).getD ((lim (val b*sc)).length-1) 0:Nat)),(11,.c (dB (lim 0))),(13,.c (dB (lim (val a*sc))))]) (by rw[bW,AO];rfl) rfl hle ⟨ψ,rfl⟩ ⟨rfl,rfl,rfl,rfl,rfl,trivial⟩ rfl rfl;have hFm:Frm 173 a2 [(68,.slice A ((List.replicate (a.length+1) 0).map λx=>[Cell.v (u32 x)]).length cp),(70,.int .i64 ((lim (val a*sc)).length:Nat))]:=(hc.frm.cons (hc.get (t:=70) rfl η)).cons hv;obtain⟨_,hsl,_⟩:=sliceT (bU sH (t:=27) rfl);refine wp1 rfl (oZ hsl (hFm.ev rfl) (hFm.ev rfl) rfl ω) ?_;clear hc hFm hv;refine HY sH (k:=λe bx=>SubE ([(8,.int .u32 (sc:Nat)),(9,.c (dB (lim (val b*sc)))),(10,.int .u64 ((lim (val b*sc)).getD ((lim (val b*sc)).length-1) 0:Nat)),(11,.c (dB (lim 0))),(12,.gs 64 (lim (val a*sc)).length),(13,.c (dB (lim (val a*sc))))]) e/\SubB ([(64,.grow 209 1 ((List.replicate (lim (val a*sc)).length 0).map λx=>[.v (u32 x)]))]) bx) ?_ ζ ?_ hc2
 case refine_2 =>
  clear hc2;exact⟨⟨rfl,rfl,rfl,rfl,rfl,rfl,trivial⟩,⟨(by show some (Bk.grow _ _ _)=some (Bk.grow _ _ _);rw[<-List.map_take,List.take_replicate,Nat.min_eq_left hlu]),trivial⟩⟩
 clear hc2;rintro e bx a3 w3 ⟨he,hb⟩ hc;replace hc:=hc.sub he hb;clear he hb;refine dW ?_;refine iL (τ:=SV) sH dF _ (QA:=Hz SV Tryz.f265 [none,none] (.tup [.c (dB (lim (val a/val b))),.c (dB (lim (val a%val b)))])) ζ ?_ hc (λx e b a w' hx hc'=>tq sH hx hc');clear hc ho
 all_goals first
  |((conv=>whnf);refine Sw.Loop.inv (α:=List Nat×Nat×Nat) (λx=>[(8,.int .u32 (sc:Nat)),(9,.c (dB (lim (val b*sc)))),(10,.int .u64 ((lim (val b*sc)).getD ((lim (val b*sc)).length-1) 0:Nat)),(11,.c (dB (lim x.2.1))),(12,.gs 64 x.1.length),(13,.c (dB (lim (val a*sc)))),(14,.int .i64 (((x.2.2:Nat):Int)-1))]) (λx=>[(64,.grow 209 1 (x.1.map λx=>[.v (u32 x)]))]) (λx=>x.2.2<=(lim (val a*sc)).length/\x.1.length=(lim (val a*sc)).length/\Lb x.1/\val ((lim (val a*sc)).drop x.2.2)=(val b*sc)*val (x.1.drop x.2.2)+x.2.1/\x.2.1<(val b*sc)) (λx=>x.2.2) (List.replicate (lim (val a*sc)).length 0,0,(lim (val a*sc)).length) ?_ ?_ ?_ (λx hx=>?_))
 all_goals(repeat'((try(conv=>whnf));first
  |refine ak ?_ ?_|(with_reducible refine aO (λ_=>?_) (λ_=>?_))|refine aK ?_ ?_|refine aJ ?_ ?_|(with_reducible refine au ?_ ?_)))
 all_goals(try apply zab)
 all_goals(try simp only[bW,jB]at *)
 all_goals(try(have hRl:=jv (Nat.le_of_lt hx.2.2.2.2);have hyu:=(bJ (val a*sc)).getD (x.2.2-1);have hR2:=Nq hyu hx.2.2.2.2;have hR2l:=KL hR2;have hra:=(bJ ((lim (val a*sc)).getD (x.2.2-1) 0+1000000000*x.2.1)).getD (lim (val b*sc)).length;have hrb:=(bJ ((lim (val a*sc)).getD (x.2.2-1) 0+1000000000*x.2.1)).getD ((lim (val b*sc)).length-1);obtain⟨hdge,hdh⟩:=Zh (V:=(val b*sc)) (n:=(lim (val b*sc)).length) rfl rfl ω (top:=(lim (val b*sc)).getD ((lim (val b*sc)).length-1) 0) rfl hR2 ω))
 all_goals(try simp(disch:=omega) only[bW,xB,dI,AO,bG,dO,wu64,zO,jB,Uo,kR,kS]at *)
 all_goals(try simp only[bW,aX]at *)
 all_goals first
  |omega|exact zao|exact zaq|((with_reducible show SubE _ _);exact⟨rfl,rfl,rfl,rfl,rfl,rfl,rfl,trivial⟩)|((with_reducible show SubB _ _);exact⟨rfl,trivial⟩)|exact⟨jg _,η,gV _,by rw[dA (jg _),dA η];simp,Nat.mul_pos hpos hsc0⟩|exact⟨ω,bJ _⟩|skip
 all_goals(try simp(disch:=omega) only[Int.zero_add,SC,zqE,Gw]at *)
 all_goals(try((conv=>whnf);simp(disch:=omega) only[wu64,dO,DK,Gw,SC,zqE,Int.zero_add,aX]))
 all_goals(repeat'((try(conv=>whnf));first
  |refine ak ?_ ?_))
 all_goals(try apply zab)
 all_goals(try simp only[bW,aX]at *)
 all_goals first
  |omega|exact⟨ω,bJ _,ω⟩|skip
 all_goals(try((conv=>whnf);simp(disch:=omega) only[wu64,dO,DK,Gw,SC,zqE,Int.zero_add,aX]))
 all_goals first
  |skip
 all_goals first
  |skip
 all_goals first
  |((conv=>whnf);refine Sw.Loop.inv (α:=Nat) (λy=>[(8,.int .u32 (sc:Nat)),(9,.c (dB (lim (val b*sc)))),(10,.int .u64 ((lim (val b*sc)).getD ((lim (val b*sc)).length-1) 0:Nat)),(11,.c (dB (lim ((lim (val a*sc)).getD (x.2.2-1) 0+1000000000*x.2.1)))),(12,.gs 64 x.1.length),(13,.c (dB (lim (val a*sc)))),(14,.int .i64 (((x.2.2:Nat):Int)-1)),(16,.int .u64 (y:Nat)),(17,.c (dB (lim ((val b*sc)*y))))]) (λy=>[(64,.grow 209 1 (x.1.map λx=>[.v (u32 x)]))]) (λy=>y<=999999999/\((lim (val a*sc)).getD (x.2.2-1) 0+1000000000*x.2.1)<(y+1)*(val b*sc)) (λy=>y) 999999999 ?_ ?_ ?_ (λy hy=>?_);exact⟨rfl,rfl,rfl,rfl,rfl,rfl,rfl,rfl,rfl,trivial⟩;exact⟨rfl,trivial⟩;exact⟨jg _,Ui hR2⟩)|((conv=>whnf);refine Sw.Loop.inv (α:=Nat) (λy=>[(8,.int .u32 (sc:Nat)),(9,.c (dB (lim (val b*sc)))),(10,.int .u64 ((lim (val b*sc)).getD ((lim (val b*sc)).length-1) 0:Nat)),(11,.c (dB (lim ((lim (val a*sc)).getD (x.2.2-1) 0+1000000000*x.2.1)))),(12,.gs 64 x.1.length),(13,.c (dB (lim (val a*sc)))),(14,.int .i64 (((x.2.2:Nat):Int)-1)),(16,.int .u64 (y:Nat)),(17,.c (dB (lim ((val b*sc)*y))))]) (λy=>[(64,.grow 209 1 (x.1.map λx=>[.v (u32 x)]))]) (λy=>y<=999999999/\((lim (val a*sc)).getD (x.2.2-1) 0+1000000000*x.2.1)<(y+1)*(val b*sc)) (λy=>y) (((lim ((lim (val a*sc)).getD (x.2.2-1) 0+1000000000*x.2.1)).getD (lim (val b*sc)).length 0*1000000000+(lim ((lim (val a*sc)).getD (x.2.2-1) 0+1000000000*x.2.1)).getD ((lim (val b*sc)).length-1) 0)/(lim (val b*sc)).getD ((lim (val b*sc)).length-1) 0) ?_ ?_ ?_ (λy hy=>?_);exact⟨rfl,rfl,rfl,rfl,rfl,rfl,rfl,rfl,rfl,trivial⟩;exact⟨rfl,trivial⟩;exact⟨ω,hdge⟩)|(have hge0:=getD_none (l:=(lim ((lim (val a*sc)).getD (x.2.2-1) 0+1000000000*x.2.1))) (k:=(lim (val b*sc)).length) ω;rw[hge0,Nat.zero_mul,uY]at hdge;(conv=>whnf);refine Sw.Loop.inv (α:=Nat) (λy=>[(8,.int .u32 (sc:Nat)),(9,.c (dB (lim (val b*sc)))),(10,.int .u64 ((lim (val b*sc)).getD ((lim (val b*sc)).length-1) 0:Nat)),(11,.c (dB (lim ((lim (val a*sc)).getD (x.2.2-1) 0+1000000000*x.2.1)))),(12,.gs 64 x.1.length),(13,.c (dB (lim (val a*sc)))),(14,.int .i64 (((x.2.2:Nat):Int)-1)),(16,.int .u64 (y:Nat)),(17,.c (dB (lim ((val b*sc)*y))))]) (λy=>[(64,.grow 209 1 (x.1.map λx=>[.v (u32 x)]))]) (λy=>y<=999999999/\((lim (val a*sc)).getD (x.2.2-1) 0+1000000000*x.2.1)<(y+1)*(val b*sc)) (λy=>y) ((lim ((lim (val a*sc)).getD (x.2.2-1) 0+1000000000*x.2.1)).getD ((lim (val b*sc)).length-1) 0/(lim (val b*sc)).getD ((lim (val b*sc)).length-1) 0) ?_ ?_ ?_ (λy hy=>?_);exact⟨rfl,rfl,rfl,rfl,rfl,rfl,rfl,rfl,rfl,trivial⟩;exact⟨rfl,trivial⟩;exact⟨ω,hdge⟩)|(have hge0:=getD_none (l:=(lim ((lim (val a*sc)).getD (x.2.2-1) 0+1000000000*x.2.1))) (k:=(lim (val b*sc)).length) ω;have hge1:=getD_none (l:=(lim ((lim (val a*sc)).getD (x.2.2-1) 0+1000000000*x.2.1))) (k:=(lim (val b*sc)).length-1) ω;rw[hge0,hge1,Nat.zero_mul,uY,Nat.zero_div]at hdge;(conv=>whnf);refine Sw.Loop.inv (α:=Nat) (λy=>[(8,.int .u32 (sc:Nat)),(9,.c (dB (lim (val b*sc)))),(10,.int .u64 ((lim (val b*sc)).getD ((lim (val b*sc)).length-1) 0:Nat)),(11,.c (dB (lim ((lim (val a*sc)).getD (x.2.2-1) 0+1000000000*x.2.1)))),(12,.gs 64 x.1.length),(13,.c (dB (lim (val a*sc)))),(14,.int .i64 (((x.2.2:Nat):Int)-1)),(16,.int .u64 (y:Nat)),(17,.c (dB (lim ((val b*sc)*y))))]) (λy=>[(64,.grow 209 1 (x.1.map λx=>[.v (u32 x)]))]) (λy=>y<=999999999/\((lim (val a*sc)).getD (x.2.2-1) 0+1000000000*x.2.1)<(y+1)*(val b*sc)) (λy=>y) 0 ?_ ?_ ?_ (λy hy=>?_);exact⟨rfl,rfl,rfl,rfl,rfl,rfl,rfl,rfl,rfl,trivial⟩;exact⟨rfl,trivial⟩;exact⟨ω,hdge⟩)|skip
 all_goals(repeat'((try(conv=>whnf));first
  |refine ak ?_ ?_|(with_reducible refine aO (λ_=>?_) (λ_=>?_))|refine aK ?_ ?_|(with_reducible refine au ?_ ?_)))
 all_goals(try apply zab)
 all_goals(try simp only[bW,aX]at *)
 all_goals first
  |omega|exact⟨CanL.lim _,CanL.lim _⟩|skip
 all_goals first
  |((with_reducible show _/\_);have hgt:=yB.1 ξ;have hy0:0<y:=(by rcases yD y with h0|h0;(rw[h0,TP]at hgt;omega);exact h0);have hVle:(val b*sc)<=(val b*sc)*y:=Nat.le_mul_of_pos_right _ hy0;have hsl:=xw (a:=(val b*sc)) (s:=y) ω;exact⟨ω,ω,bJ _,bJ _,jv hVle,hVle⟩)|((with_reducible show _/\_);have hle2:(val b*sc)*y<=((lim (val a*sc)).getD (x.2.2-1) 0+1000000000*x.2.1):=Nat.not_lt.1 (mt yB.2 ξ);have hll:=jv hle2;exact⟨ω,ω,bJ _,bJ _,hll,hle2⟩)|(have hgt:=yB.1 ξ;have hy0:0<y:=(by rcases yD y with h0|h0;(rw[h0,TP]at hgt;omega);exact h0);have hVle:(val b*sc)<=(val b*sc)*y:=Nat.le_mul_of_pos_right _ hy0;have hsl:=xw (a:=(val b*sc)) (s:=y) ω;(conv=>whnf);exact⟨y-1,⟨⟨rfl,rfl,rfl,rfl,rfl,rfl,rfl,iS (by(try simp(disch:=omega) only[dO,wu64,bG,kR,kS,yU])<;>omega),(by show some (AV.c (dB _))=some (AV.c (dB _));rw[TA hy0]),trivial⟩,⟨rfl,trivial⟩,⟨ω,by rw[Nat.sub_add_cancel hy0];exact Nat.lt_of_lt_of_eq hgt (Gx _ _)⟩,(by show y-1<y;omega)⟩⟩)|(have hle2:(val b*sc)*y<=((lim (val a*sc)).getD (x.2.2-1) 0+1000000000*x.2.1):=Nat.not_lt.1 (mt yB.2 ξ);have hll:=jv hle2;obtain⟨i1,i2,i3,i4,i5⟩:=hx;(conv=>whnf);exact⟨(x.1.set (x.2.2-1) y,((lim (val a*sc)).getD (x.2.2-1) 0+1000000000*x.2.1)-(val b*sc)*y,x.2.2-1),⟨⟨rfl,rfl,rfl,rfl,gsE η,rfl,xu ω ω,trivial⟩,⟨xC ω (by(try simp(disch:=omega) only[dO,wu64,bG,kR,kS,yU])<;>omega),trivial⟩,⟨by show x.2.2-1<=_;omega,by simp only[kG];exact i2,gG i3 ω,Nk ω i1 ω i4 rfl hle2,V5 hy.2 hle2⟩,(by show x.2.2-1<x.2.2;omega)⟩⟩)|skip
 all_goals first
  |((conv=>whnf);refine Sw.Loop.inv (α:=List Nat×Nat×Nat) (λz=>[(8,.int .u32 (sc:Nat)),(11,.c (dB (lim x.2.1))),(12,.gs 64 x.1.length),(18,.int .u64 (z.2.1:Nat)),(19,.gs 141 z.1.length),(20,.int .i64 (((z.2.2:Nat):Int)-1))]) (λz=>[(64,.grow 209 1 (x.1.map λx=>[.v (u32 x)])),(141,.grow 209 1 (z.1.map λx=>[.v (u32 x)]))]) (λz=>z.2.2<=(lim x.2.1).length/\z.1.length=(lim x.2.1).length/\Lb z.1/\z.2.1<sc/\val ((lim x.2.1).drop z.2.2)=sc*val (z.1.drop z.2.2)+z.2.1) (λz=>z.2.2) (List.replicate (lim x.2.1).length 0,0,(lim x.2.1).length) ?_ ?_ ?_ (λz hz=>?_))
 all_goals(repeat'((try(conv=>whnf));first
  |refine aC ?_|(with_reducible refine aO (λ_=>?_) (λ_=>?_))|refine aK ?_ ?_|(with_reducible refine au ?_ ?_)|apply zaa))
 all_goals(try apply zab)
 all_goals(try simp only[bW,aX]at *)
 all_goals first
  |omega|skip
 all_goals(try simp(disch:=omega) only[jB,bG,wu64]at *)
 all_goals first
  |((with_reducible show SubE _ _);exact⟨rfl,rfl,rfl,rfl,gsE η,rfl,trivial⟩)|((with_reducible show SubB _ _);exact⟨rfl,lQ _ _,trivial⟩)|exact⟨jg _,η,gV _,hsc0,by rw[dA (jg _),dA η];simp⟩|omega|((with_reducible show aW _=_);have q1:=hx.2.2.2.1;have q2:=hz.2.2.2.2;rw[show x.2.2=0 by omega,UW,UW,aX]at q1;rw[show z.2.2=0 by omega,UW,UW,aX]at q2;obtain⟨e1,e2⟩:=Ur hsc0 q1 hx.2.2.2.2 q2 hz.2.2.2.1;rw[<-kQ _ hx.2.2.1,<-kQ _ hz.2.2.1,e1,e2];rfl)|(have gz:=(bJ x.2.1).getD (z.2.2-1);have c4:=Int.natCast_nonneg ((z.2.1*1000000000+(lim x.2.1).getD (z.2.2-1) 0)/sc);obtain⟨b1,b2,b3⟩:=Fh hz.2.2.2.1 hscB gz (t:=_) rfl;obtain⟨h1z,h2z,h3z,h4z,h5z⟩:=hz;(conv=>whnf);exact⟨(z.1.set (z.2.2-1) ((z.2.1*1000000000+(lim x.2.1).getD (z.2.2-1) 0)/sc),(z.2.1*1000000000+(lim x.2.1).getD (z.2.2-1) 0)%sc,z.2.2-1),⟨⟨rfl,rfl,rfl,iS (by(try simp(disch:=omega) only[dO,wu64,bG,kR,kS,jB,yU,Qx,P9,Gw,MW,NH])<;>omega),gsE η,xu ω ω,trivial⟩,⟨rfl,xC ω (by(try simp(disch:=omega) only[dO,wu64,bG,kR,kS,jB,yU,Qx,P9,Gw,MW,NH])<;>omega),trivial⟩,⟨by show z.2.2-1<=_;omega,by simp only[kG];exact h2z,gG h3z b1,b2,zW ω h1z ω h5z rfl rfl⟩,(by show z.2.2-1<z.2.2;omega)⟩⟩)
instance(a b:List Nat):DenI prog 276 [.c (dB a),.c (dB b)] (a.length<=100000000000/\b.length<=100000000000/\Lb a/\Lb b/\0<val b) (.tup [.c (dB (pad (Zx a b) (val a / val b))),.c (dB (pad (Ya a b) (val a % val b)))]):=⟨λhp=>ajC ζ λw X u v hX hu hv=>(yN hX hu.ul hv.ul hp.1 hp.2.1 hp.2.2.1 hp.2.2.2.1 hp.2.2.2.2).mono λe w' ⟨u,he,⟨qs,rs,r0,r1,h1,h2,h3,h4,h5,h6,h7,h8,h9⟩,hb⟩=>⟨u,he,by subst h1;obtain ⟨e1,e2⟩:=Yl h4 h5 h6 h7 h8 h9;rw [<- e1,<- e2];exact alF (.c h2.rep) (.c h3.rep),hb⟩⟩
instance(a b:List Nat):DenI prog 265 [.c (dB a),.c (dB b)] (a.length<=1000000000/\b.length<=1000000000/\CanL a/\CanL b/\0<val b) (.tup [.c (dB (lim (val a / val b))),.c (dB (lim (val a % val b)))]):=⟨λhp=>ad1 a b hp.1 hp.2.1 hp.2.2.1 hp.2.2.2.1 hp.2.2.2.2⟩
instance aml(a b:Int):DenI prog 267 [Z a,Z b] (sz a<=1000000000/\sz b<=1000000000) (Z (a-b)):=⟨λhp=>by
 refine aS func267 rfl ?_
 repeat'((try(conv=>whnf));first
  |refine ak ?_ ?_|refine zac ζ ?_|apply zaa)
 all_goals(try apply zab)
 all_goals first
  |with_reducible exact hp.2|(rw[iD];exact hp)|(refine Rz ?_;omega)⟩
instance alU(a b:Int):DenI prog 277 [Z a,Z b] (sz a<=1000000000/\sz b<=1000000000) (Z (a-b)):=⟨λhp=>by
 refine aS func277 rfl ?_
 repeat'((try(conv=>whnf));first
  |(with_reducible first|refine aN ?_|refine aI ?_)|(with_reducible refine aP (λ_=>?_) (λ_=>?_)))
 all_goals(try((conv=>whnf);first|rw[aez ξ]|rw[ad6 ξ]))
 all_goals(repeat'((try(conv=>whnf));first
  |refine ak ?_ ?_|apply zaa))
 all_goals(try apply zab)
 all_goals first
  |(rw[iD];exact hp)|(refine Rz ?_;omega)⟩
instance alB(a:Int):DenI prog 120 [Z a] (True) (.tup [.int .i64 (if -9223372036854775808<=a/\a<=9223372036854775807 then a else 0),.bool (decide (-9223372036854775808<=a/\a<=9223372036854775807))]):=⟨λhp=>by
 refine aS func120 rfl ?_
 repeat'((try(conv=>whnf));first
  |refine aC ?_|refine ak ?_ ?_|(with_reducible first|refine aN ?_|refine aI ?_|refine aO (λ_=>?_) (λ_=>?_))|refine zac ζ ?_|apply zaa)
 all_goals(try apply zab)
 all_goals first
  |omega|with_reducible exact ahg ξ|with_reducible exact agQ ξ|(have hb:=aiO ξ ξ;have hq:=agh hb;((conv=>whnf);refine Sw.Loop.inv (α:=Nat) (λx=>[(1,.ptr 1 0),(4,.int .u64 (val ((lim a.natAbs).drop x):Nat)),(5,.int .i64 ((x:Int)-1))]) (λx=>[(1,.var [zs a,zl a])]) (λx=>x<=(lim a.natAbs).length) (λx=>x) ((lim a.natAbs).length) ?_ ?_ ?_ (λx hx=>?_)))
 all_goals(repeat'((try(conv=>whnf));first
  |(with_reducible first|refine aO (λ_=>?_) (λ_=>?_)|refine au ?_ ?_)|apply zaa))
 all_goals(try apply zab)
 all_goals first|(show SubE _ _;repeat'(first|exact trivial|refine And.intro ?_ ?_))|(show SubB _ _;repeat'(first|exact trivial|refine And.intro ?_ ?_))|skip
 all_goals(try rfl)
 all_goals(try simp(disch:=omega) only[bW,xB,dI,AO,bG,dO,wu64,zO,jB,Uo,kR,kS]at *)
 all_goals first
  |omega|rfl|(rw[dA (jg _)];rfl)|(refine agL hb ?_;rw[show x=0 by omega,UW,aX];first|exact NI ω ω|exact Xk ω ω)|(have hd:=ru (l:=lim a.natAbs) (k:=x) ω hx;have hle:=Ag (lim a.natAbs) (x-1);have hg:=(bJ a.natAbs).getD (x-1);((conv=>whnf);exact⟨x-1,⟨⟨rfl,iS (by(try simp(disch:=omega) only[dO,wu64,bG,kR,kS,jB,yU,Qx,P9,Gw,MW,NH])<;>omega),xu ω ω,trivial⟩,⟨rfl,trivial⟩,ω,by show x-1<x;omega⟩⟩))⟩
instance SE(a b:Int):DenI prog 212 [Z a,Z b] (sz a<=1000000000/\sz b<=1000000000) (.tup [Z (a.fdiv b),Z (if b=0 then 0 else a.fmod b),.int .i64 (if b=0 then 6 else 0)]):=⟨λhp=>by
 refine aS func212 rfl ?_
 repeat'((try(conv=>whnf));first
  |refine ak ?_ ?_|(with_reducible first|refine aN ?_|refine aI ?_|refine aO (λ_=>?_) (λ_=>?_))|refine zad (λ_=>?_) (λ_=>?_)|refine zac ζ ?_|apply zaa)
 all_goals(try apply zab)
 all_goals(try simp(disch:=assumption) only[aX,ql,BQ,qU,rF,bW,dqI,drI]at *)
 all_goals(try simp(disch:=assumption) only[aX,ql,BQ,qU,rF,bW,dqI,drI]at *)
 all_goals first
  |omega|(have hb0:b=0:=ω;subst hb0;exact LD a)|with_reducible exact lW _ _|with_reducible exact Vo hp.1 hp.2 ξ|with_reducible exact⟨amj hp.1 _,amm⟩|with_reducible exact⟨amo hp.1 _,hp.2⟩|with_reducible exact J8 ξ ξ (aar (r:=a.natAbs%b.natAbs) ω ξ)|with_reducible exact yh ξ (.inr (aao (r:=a.natAbs%b.natAbs) ω ξ))|with_reducible exact yh ξ (.inl ω)⟩
instance akp(a b:Int):DenI prog 204 [Z a,Z b] (sz a<=1000000000/\sz b<=1000000000) (Z ((Nat.gcd a.natAbs b.natAbs:Nat):Int)):=⟨λhp=>by
 refine aS func204 rfl ?_
 repeat'((try(conv=>whnf));first
  |refine zac ζ ?_)
 all_goals first
  |((conv=>whnf);refine Sw.Loop.inv (α:=Nat×Nat) (λx=>[(4,.ptr 4 0),(5,.c (dB (lim x.1))),(6,.c (dB (lim x.2)))]) (λx=>[(4,.var [.v (.bool false),.sl 1 []])]) (λx=>Nat.gcd x.1 x.2=Nat.gcd a.natAbs b.natAbs/\(lim x.1).length<=1000000000/\(lim x.2).length<=1000000000) (λx=>x.2) (a.natAbs,b.natAbs) ?_ ?_ ?_ (λx hx=>?_))
 all_goals(repeat'((try(conv=>whnf));first
  |refine ak ?_ ?_|(with_reducible first|refine aN ?_|refine aI ?_|refine aO (λ_=>?_) (λ_=>?_))|apply zaa))
 all_goals(try apply zab)
 all_goals first
  |((conv=>whnf);refine Sw.Loop.inv (α:=Nat×Nat) (λy=>[(4,.ptr 4 0),(9,.int .u64 (y.1:Nat)),(10,.int .u64 (y.2:Nat))]) (λy=>[(4,.var [.v (.bool false),.sl 1 []])]) (λy=>y.1<1000000000000000000/\y.2<1000000000000000000/\Nat.gcd y.1 y.2=Nat.gcd a.natAbs b.natAbs) (λy=>y.2) x ?_ ?_ ?_ (λy hy=>?_))|skip
 all_goals(repeat'((try(conv=>whnf));first
  |refine ak ?_ ?_|(with_reducible refine aO (λ_=>?_) (λ_=>?_))|refine aK ?_ ?_|refine zac ζ ?_|apply zaa))
 all_goals(try apply zab)
 all_goals first|(show SubE _ _;repeat'(first|exact trivial|refine And.intro ?_ ?_))|(show SubB _ _;repeat'(first|exact trivial|refine And.intro ?_ ?_))|skip
 all_goals(try rfl)
 all_goals(try simp only[bW]at *)
 all_goals first
  |with_reducible exact bJ _|with_reducible exact ajG hx.2.1 hx.2.2 ω|with_reducible exact Yj ω|exact⟨trivial,hp.1,hp.2⟩|exact gv|(have hz:=eH (n:=x.2);with_reducible exact abu ω hx.1 (aX _))|with_reducible exact abu ω hy.2.2 (aX _)|exact⟨glt ω,glt ω,hx.1⟩|(have h3:x.1%x.2<x.2:=qx _ (by have hz:=eH (n:=x.2);omega);((conv=>whnf);exact⟨(x.2,x.1%x.2),⟨⟨rfl,rfl,aln,trivial⟩,⟨rfl,trivial⟩,⟨yL hx.1 rfl,hx.2.2,fZ (jv (Nat.le_of_lt h3)) hx.2.2⟩,h3⟩⟩))|(have h1:=hy.1;have h2:=hy.2.1;have h3:y.1%y.2<y.2:=qx _ ω;((conv=>whnf);exact⟨(y.2,y.1%y.2),⟨⟨rfl,rfl,gm2,trivial⟩,⟨rfl,trivial⟩,⟨by show y.2<_;omega,by show y.1%y.2<_;omega,yL hy.2.2 rfl⟩,h3⟩⟩))|omega⟩
instance ajW(a b:Int):DenI prog 272 [Z a,Z b] (sz a<=1000000000/\sz b<=1000000000) (Z ((Nat.gcd a.natAbs b.natAbs:Nat):Int)):=⟨λhp=>by
 refine aS func272 rfl ?_
 repeat'((try(conv=>whnf));first
  |refine ak ?_ ?_|refine zac ζ ?_)
 all_goals(try apply zab)
 all_goals first
  |((conv=>whnf);refine Sw.Loop.inv (α:=Nat×Nat) (λx=>[(4,.ptr 4 0),(5,.ptr 5 0),(6,.ptr 6 0)]) (λx=>[(4,.var [.v (.bool false),.sl 1 []]),(5,.var [zs (x.1:Nat),zl (x.1:Nat)]),(6,.var [zs (x.2:Nat),zl (x.2:Nat)])]) (λx=>Nat.gcd x.1 x.2=Nat.gcd a.natAbs b.natAbs/\sz ((x.1:Nat):Int)<=1000000000/\sz ((x.2:Nat):Int)<=1000000000) (λx=>x.2) (a.natAbs,b.natAbs) ?_ ?_ ?_ (λx hx=>?_))|skip
 all_goals(repeat'((try(conv=>whnf));first
  |refine aC ?_|refine ak ?_ ?_|(with_reducible first|refine aN ?_|refine aI ?_|refine aO (λ_=>?_) (λ_=>?_))|refine aK ?_ ?_|refine zac ζ ?_|apply zaa))
 all_goals(try apply zab)
 all_goals first
  |((conv=>whnf);refine Sw.Loop.inv (α:=Nat×Nat) (λy=>[(4,.ptr 4 0),(7,.int .u64 (y.1:Nat)),(9,.int .u64 (y.2:Nat))]) (λy=>[(4,.var [.v (.bool false),.sl 1 []])]) (λy=>y.1<1000000000000000000/\y.2<1000000000000000000/\Nat.gcd y.1 y.2=Nat.gcd a.natAbs b.natAbs) (λy=>y.2) x ?_ ?_ ?_ (λy hy=>?_))|skip
 all_goals(repeat'((try(conv=>whnf));first
  |refine ak ?_ ?_|(with_reducible refine aO (λ_=>?_) (λ_=>?_))|refine aK ?_ ?_|refine zac ζ ?_|apply zaa))
 all_goals(try apply zab)
 all_goals first|(show SubE _ _;repeat'(first|exact trivial|refine And.intro ?_ ?_))|(show SubB _ _;repeat'(first|exact trivial|refine And.intro ?_ ?_))|skip
 all_goals(try rfl)
 all_goals(try simp only[bW]at *)
 all_goals first
  |with_reducible exact bJ _|with_reducible exact lW _ _|exact Yc _ _ (by rw[aX];rfl)|exact⟨trivial,hp.1,hp.2⟩|exact wif ξ|exact⟨Qg ξ,Qg ξ,hx.1⟩|with_reducible exact akz hx.2.1 hx.2.2 ξ|omega|with_reducible exact abu (aiK ξ) hx.1 (aX _)|with_reducible exact abu ω hy.2.2 (nI _ _ ω)|(have h1:=hy.1;have h2:=hy.2.1;have h3:y.1%y.2<y.2:=qx _ ω;((conv=>whnf);exact⟨(y.2,y.1%y.2),⟨⟨rfl,rfl,gm2,trivial⟩,⟨rfl,trivial⟩,⟨by show y.2<_;omega,by show y.1%y.2<_;omega,yL hy.2.2 rfl⟩,h3⟩⟩))|(have h0:=ak0 ξ;have h3:x.1%x.2<x.2:=qx _ h0;((conv=>whnf);exact⟨(x.2,x.1%x.2),⟨⟨rfl,rfl,rfl,trivial⟩,⟨rfl,rfl,Yc _ _ (gst ξ),trivial⟩,⟨yL hx.1 rfl,hx.2.2,fZ (ku (by rw[uP,uP];exact Nat.le_of_lt h3)) hx.2.2⟩,h3⟩⟩))|(have h0:=hx.2.1;unfold sz at h0;omega)⟩
instance ajY:DenI prog 219 [] (True) (Z 1):=⟨λhp=>by
 refine aS func219 rfl ?_
 repeat'((try(conv=>whnf));first
  |refine ak ?_ ?_|apply zaa)
 all_goals(try apply zab)
 all_goals first|rfl|decide⟩
instance ai5(n:Int):DenI prog 133 [Z n] (True) (R (n:Rat)):=⟨λhp=>by
 refine aS func133 rfl ?_
 repeat'((try(conv=>whnf));first
  |refine aC ?_|refine zac ζ ?_|apply zaa)
 rfl⟩
instance ai8(a b:Int):DenI prog 273 [Z a,Z b] (sz a<=1000000000/\sz b<=1000000000) (Z (a.fdiv b)):=⟨λhp=>by
 refine aS func273 rfl ?_
 repeat'((try(conv=>whnf));first
  |refine ak ?_ ?_|apply zaa)
 all_goals(try apply zab)
 all_goals first|rfl|exact hp⟩
instance aix(n d:Int):DenI prog 209 [Z n,Z d] (d≠0/\sz n<=1000000000/\sz d<=1000000000) (R ((n:Rat) / d)):=⟨λhp=>by
 refine aS func209 rfl ?_
 repeat'((try(conv=>whnf));first
  |refine aC ?_|refine ak ?_ ?_|(with_reducible first|refine aO (λ_=>?_) (λ_=>?_)|refine aP (λ_=>?_) (λ_=>?_))|refine zac ζ ?_|apply zaa)
 all_goals(try apply zab)
 all_goals obtain⟨h0,h1,h2⟩:=hp
 all_goals(try simp only[bn]at *)
 all_goals first
  |(show aW _=_;first|(by_cases hd:d<0;(obtain⟨q1,q2⟩:=QI (n:=n) (d:=d) hd;first|exact zZ q1 q2|(refine zZ ?_ ?_<;>simp_all));(obtain⟨q1,q2⟩:=sJ (n:=n) (d:=d) ω;first|exact zZ q1 q2|(refine zZ ?_ ?_<;>simp_all))))|((try simp only[iD]);(repeat' apply And.intro)<;>first|assumption|exact Wh (by(try simp only[iD]);assumption) (by(try simp only[iD]);assumption))⟩
instance ajR(n:Int):DenI prog 66 [.int .i64 n] (-9223372036854775808<=n/\n<=9223372036854775807) (R (n:Rat)):=⟨λhp=>by
 refine aS func66 rfl ?_
 repeat'((try(conv=>whnf));first
  |refine aC ?_|refine ak ?_ ?_|apply zaa)
 all_goals(try apply zab)
 all_goals first
  |(show aW _=_;rfl)|exact zal⟩
instance ak5(a:Rat):DenI prog 58 [R a] (True) (.int .i64 (bD a)):=⟨λhp=>by
 refine aS func58 rfl ?_
 repeat'((try(conv=>whnf));first
  |refine aC ?_|apply zaa)
 all_goals(try simp only[bn]at *)
 all_goals first
  |(show aW _=_;rfl)⟩
instance anD(a:Rat):DenI prog 123 [R a] (rz a<=100000000) (R (-a)):=⟨λhp=>by
 refine aS func123 rfl ?_
 repeat'((try(conv=>whnf));first
  |refine ak ?_ ?_|refine zac ζ ?_|apply zaa)
 all_goals(try apply zab)
 all_goals first
  |(show aW _=_;rfl)|exact zal⟩
instance anf(a b:Rat):DenI prog 119 [R a,R b] (rz a<=100000000/\rz b<=100000000) (R (a*b)):=⟨λhp=>by
 refine aS func119 rfl ?_
 repeat'((try(conv=>whnf));first
  |refine ak ?_ ?_|refine zac ζ ?_|apply zaa)
 all_goals(try apply zab)
 all_goals first
  |(show aW _=_;exact congrArg R (mul_div a b))|exact zal⟩
instance anK(a b:Rat):DenI prog 221 [R a,R b] (rz a<=100000000/\rz b<=100000000) (R (a+b)):=⟨λhp=>by
 refine aS func221 rfl ?_
 repeat'((try(conv=>whnf));first
  |refine aC ?_|refine ak ?_ ?_|(with_reducible refine aO (λ_=>?_) (λ_=>?_))|refine zac ζ ?_|apply zaa)
 all_goals(try apply zab)
 all_goals(try simp only[bn]at *)
 all_goals first
  |(show aW _=_;first|exact congrArg R (add_div a b)|exact congrArg R (YZ a b ξ))|exact zal⟩
instance anG(a b:Rat):DenI prog 135 [R a,R b] (rz a<=100000000/\rz b<=100000000) (R (a-b)):=⟨λhp=>by
 refine aS func135 rfl ?_
 repeat'((try(conv=>whnf));first
  |refine ak ?_ ?_|refine zac ζ ?_|apply zaa)
 all_goals(try apply zab)
 all_goals first
  |(show aW _=_;exact congrArg R (Rat.sub_eq_add_neg a b).symm)|exact zal⟩
instance ajj(a:Rat):DenI prog 121 [R a] (rz a<=100000000) (Z a.floor):=⟨λhp=>by
 refine aS func121 rfl ?_
 repeat'((try(conv=>whnf));first
  |refine ak ?_ ?_|apply zaa)
 all_goals(try apply zab)
 all_goals first
  |(show aW _=_;exact congrArg Z (J9 a))|exact zal⟩
instance afU(a b:Int):DenI prog 205 [Z a,Z b] (sz a<=500000000/\sz b<=500000000) (.tup [Z (a.fdiv b),Z (if b=0 then 0 else a.fmod b),.int .i64 (if b=0 then 6 else 0)]):=⟨λhp=>by
 refine aS func205 rfl ?_
 repeat'((try(conv=>whnf));first
  |refine ak ?_ ?_|(with_reducible first|refine aN ?_|refine aI ?_|refine aO (λ_=>?_) (λ_=>?_))|refine zad (λ_=>?_) (λ_=>?_)|refine zac ζ ?_|apply zaa)
 all_goals(try apply zab)
 all_goals(try simp only[bW,aX,qU,rF]at *)
 all_goals obtain⟨h1,h2⟩:=hp
 all_goals first
  |(show aW _=_;(first|(have hb0:b=0:=ω;subst hb0;exact LD a)|with_reducible exact J8 ξ ξ ξ|with_reducible exact yh ξ (.inl ω)|with_reducible exact yh ξ (.inr (by simp_all))))|(have z1:=Bq (decide (a<0) != decide (b<0)) (a.natAbs/b.natAbs) a (OU _ _);have z2:=Bq (decide (a<0)) (a.natAbs%b.natAbs) a (Nat.mod_le _ _);have z3:=jT;(repeat' apply And.intro)<;>first|assumption|omega|exact CanL.lim _|exact bJ _|exact F5 _|(unfold sz at *;omega)|skip)⟩
instance ajl:DenI prog 110 [] (True) (Z 1):=⟨λhp=>by
 refine aS func110 rfl ?_
 repeat'((try(conv=>whnf));first
  |refine ak ?_ ?_|apply zaa)
 all_goals(try apply zab)
 all_goals first|rfl|decide⟩
instance amT(n d:Int):DenI prog 113 [Z n,Z d] (d≠0/\sz n<=500000000/\sz d<=500000000) (R ((n:Rat) / d)):=⟨λhp=>by
 refine aS func113 rfl ?_
 repeat'((try(conv=>whnf));first
  |refine aC ?_|refine ak ?_ ?_|(with_reducible refine aO (λ_=>?_) (λ_=>?_))|refine zac ζ ?_|apply zaa)
 all_goals(try apply zab)
 all_goals obtain⟨h0,h1,h2⟩:=hp
 all_goals(try simp only[bn]at *)
 all_goals first
  |(show aW _=_;first|(by_cases hd:d<0;(obtain⟨q1,q2⟩:=QI (n:=n) (d:=d) hd;first|exact zZ q1 q2|(refine zZ ?_ ?_<;>simp_all));(obtain⟨q1,q2⟩:=sJ (n:=n) (d:=d) ω;first|exact zZ q1 q2|(refine zZ ?_ ?_<;>simp_all))))|((try simp only[iD]);(repeat' apply And.intro)<;>first|assumption|omega|exact Wh (by(try simp only[iD]);assumption) (by(try simp only[iD]);assumption))⟩
instance ajt(n:Int):DenI prog 51 [.int .i64 n] (-9223372036854775808<=n/\n<=9223372036854775807) (R (n:Rat)):=⟨λhp=>by
 refine aS func51 rfl ?_
 repeat'((try(conv=>whnf));first
  |refine aC ?_|refine ak ?_ ?_|apply zaa)
 all_goals(try apply zab)
 all_goals first
  |(show aW _=_;rfl)|(exact hp)⟩
instance ajy(n d:Int):DenI prog 55 [.int .i64 n,.int .i64 d] ((-9223372036854775808<=n/\n<=9223372036854775807)∧-9223372036854775808<=d/\d<=9223372036854775807) (R ((n:Rat) / d)):=⟨λhp=>by
 refine aS func55 rfl ?_
 repeat'((try(conv=>whnf));first
  |refine ak ?_ ?_|(with_reducible refine aO (λ_=>?_) (λ_=>?_))|apply zaa)
 all_goals(try apply zab)
 all_goals obtain⟨⟨h1,h2⟩,h3,h4⟩:=hp
 all_goals first
  |(show aW _=_;first|rfl|(subst d;exact congrArg R (acN n)))|(have z1:=jP h1 h2;have z2:=jP h3 h4;have z3:=jT;have z4:=jP (n:=0) ω ω;(repeat' apply And.intro)<;>first|assumption|omega|exact bV (ah _) (ah _)|exact ah _|grind[jc,kE,oz,iD,lN,mX,kW,lq,jK,ny,mQ,jP,jT])⟩
instance ajq(a:Rat):DenI prog 40 [R a] (True) (.int .i64 (bD a)):=⟨λhp=>by
 refine aS func40 rfl ?_
 repeat'((try(conv=>whnf));first
  |refine aC ?_|apply zaa)
 all_goals(try simp only[bn]at *)
 all_goals first
  |(show aW _=_;rfl)⟩
instance akW(a:Rat):DenI prog 184 [R a] (rz a<=100000000) (R (-a)):=⟨λhp=>by
 refine aS func184 rfl ?_
 repeat'((try(conv=>whnf));first
  |refine ak ?_ ?_|refine zac ζ ?_|apply zaa)
 all_goals(try apply zab)
 all_goals first
  |(show aW _=_;rfl)|exact zal⟩
instance akS(a b:Rat):DenI prog 117 [R a,R b] (rz a<=100000000/\rz b<=100000000) (R (a*b)):=⟨λhp=>by
 refine aS func117 rfl ?_
 repeat'((try(conv=>whnf));first
  |refine ak ?_ ?_|refine zac ζ ?_|apply zaa)
 all_goals(try apply zab)
 all_goals first
  |(show aW _=_;exact congrArg R (mul_div a b))|exact zal⟩
instance ake(a b:Rat):DenI prog 116 [R a,R b] (rz a<=100000000/\rz b<=100000000) (R (a+b)):=⟨λhp=>by
 refine aS func116 rfl ?_
 repeat'((try(conv=>whnf));first
  |refine ak ?_ ?_|refine zac ζ ?_|apply zaa)
 all_goals(try apply zab)
 all_goals first
  |(show aW _=_;exact congrArg R (add_div a b))|exact zal⟩
instance amv(a b:Rat):DenI prog 167 [R a,R b] (rz a<=100000000/\rz b<=100000000) (R (a-b)):=⟨λhp=>by
 refine aS func167 rfl ?_
 repeat'((try(conv=>whnf));first
  |refine ak ?_ ?_|refine zac ζ ?_|apply zaa)
 all_goals(try apply zab)
 all_goals first
  |(show aW _=_;exact congrArg R (Rat.sub_eq_add_neg a b).symm)|exact zal⟩
instance alG(a b:Rat):DenI prog 83 [R a,R b] (rz a<=100000000/\rz b<=100000000) (.int .i64 (jJ a b)):=⟨λhp=>by
 refine aS func83 rfl ?_
 repeat'((try(conv=>whnf));first
  |refine aC ?_|refine ak ?_ ?_|refine zac ζ ?_|apply zaa)
 all_goals(try apply zab)
 all_goals(try simp only[bn]at *)
 all_goals first
  |(show aW _=_;rfl)|exact zal⟩
instance aja(a:Int):DenI prog 268 [Z a] (sz a<=100000000) (.tup [Z (if a<0 then 0 else iC a.natAbs),.int .i64 (if a<0 then 7 else 0)]):=⟨λhp=>by
 refine aS func268 rfl ?_
 repeat'((try(conv=>whnf));first
  |refine ak ?_ ?_|(with_reducible refine aO (λ_=>?_) (λ_=>?_))|refine aK ?_ ?_|refine aJ ?_ ?_|apply zaa)
 all_goals(try apply zab)
 all_goals have hl:(lim a.natAbs).length<=100000000:=hp
 all_goals first
  |((conv=>whnf);refine Sw.Loop.inv (α:=Nat) (λx=>[(1,.ptr 1 0),(2,.ptr 2 0),(3,.int .i64 0),(4,.ptr 4 0),(5,.ptr 5 0)]) (λx=>[(1,.var [zs a,zl a]),(2,.var [.v (.bool false),.sl 1 []]),(4,.var [zs x,zl x]),(5,.var [zs 2,zl 2])]) (λx=>0<x/\a.natAbs<(x+1)*(x+1)/\sz x<=200000000) (λx=>x) (1000000000^(((lim a.natAbs).length+1)/2)) ?_ ?_ ?_ (λx hx=>?_))|skip
 all_goals(repeat'((try(conv=>whnf));first
  |refine aC ?_|refine ak ?_ ?_|(with_reducible refine aO (λ_=>?_) (λ_=>?_))|refine zac ζ ?_|apply zaa))
 all_goals(try apply zab)
 all_goals first|(show SubE _ _;repeat'(first|exact trivial|refine And.intro ?_ ?_))|(show SubB _ _;repeat'(first|exact trivial|refine And.intro ?_ ?_))|skip
 all_goals(try rfl)
 all_goals(try simp only[bn]at *)
 all_goals(try simp only[bW,aX,qU,rF]at *)
 all_goals(try rw[LZ ω])
 all_goals(try simp only[LK (show 0<=a by omega),Lp]at *)
 all_goals first
  |exact PK ξ|exact J7 ξ ξ|with_reducible exact RD ξ ξ ξ|((conv=>whnf);exact⟨(x+a.natAbs/x)/2,⟨⟨rfl,rfl,rfl,rfl,rfl,trivial⟩,⟨rfl,rfl,rfl,rfl,trivial⟩,LP ξ ξ ξ,by show(x+a.natAbs/x)/2<x;omega⟩⟩)|(refine(congrArg (λc=>some (Bk.var c)) ?_:some (Bk.var _)=some (Bk.var _));exact Ud _)|exact Ef rfl hl|(have z1:=@QV a;have z2:=kE;have z3:=jT;have z4:=jP (n:=2) ω ω;(repeat' apply And.intro)<;>first|assumption|omega|decide|(simp only[dI,AO,rQ,ji,mg];omega)|(simp;done)|(have z5:=z1 (x:=x);have z6:=z2 x ((a.natAbs/x:Nat):Int);omega)|skip)⟩
instance agx(l h:Int):DenI prog 124 [.int .i64 l,.int .i64 h] (True) (Ov (Ua l h)):=⟨λhp=>by
 refine aS func124 rfl ?_
 repeat'((try(conv=>whnf));first
  |(with_reducible first|refine aN ?_|refine aI ?_|refine aO (λ_=>?_) (λ_=>?_))|apply zaa)
 all_goals first
  |(rw[QU ω ω];rfl)|(rw[Je ω];rfl)⟩
instance anL(l h:Int):DenI prog 234 [Iv l h] (-2305843009213693952<=l/\l<=2305843009213693952∧-2305843009213693952<=h/\h<=2305843009213693952) (Iv (-h) (-l)):=⟨λhp=>by
 refine aS func234 rfl ?_
 repeat'((try(conv=>whnf));first
  |apply zaa)
 rw[bG ω ω,bG ω ω,Int.zero_sub,Int.zero_sub];rfl⟩
instance amV(n:Int):DenI prog 216 [.int .i64 n] (-9223372036854775808<=n/\n<=9223372036854775807) (.int .u64 n.natAbs):=⟨λhp=>by
 refine aS func216 rfl ?_
 repeat'((try(conv=>whnf));first
  |(with_reducible refine aO (λ_=>?_) (λ_=>?_))|apply zaa)
 all_goals(refine iE ?_;simp only[IntKind.wrap_u64];omega)⟩
instance ak8(l h:Int):DenI prog 235 [Iv l h] (True) (.tup [.int .i64 (zi l h).1,.bool (zi l h).2]):=⟨λhp=>by
 refine aS func235 rfl ?_
 repeat'((try(conv=>whnf));first
  |(with_reducible first|refine aN ?_|refine aI ?_|refine aO (λ_=>?_) (λ_=>?_))|refine zac ζ ?_|apply zaa)
 all_goals(refine ibE ?_ ?_<;>unfold zi<;>(repeat' split)<;>simp_all<;>omega)⟩
instance ajx(a b:Nat):DenI prog 215 [.int .u64 a,.int .u64 b] (a<18446744073709551616/\b<18446744073709551616) (.tup [.int .u64 (a*b / 18446744073709551616:Nat),.int .u64 (a*b % 18446744073709551616:Nat)]):=⟨λhp=>by
 refine aS func215 rfl ?_
 repeat'((try(conv=>whnf));first
  |refine aK ?_ ?_|apply zaa)
 all_goals(try apply zab)
 all_goals first
  |(show(0:Int)<=_;decide)|(simp only[ajU,ag4,aiW,e32,e16,e48,Gl,aea,WG,wu,<-WR,<-Int.natCast_add];obtain⟨m1,m2,m3,m4,m5⟩:=TT (a:=a) (b:=b) hp.1 hp.2 rfl rfl rfl rfl;refine iE2 ?_ rfl;rw[<-m1];apply congrArg Nat.cast;omega)⟩
instance ahz(x y:Int):DenI prog 127 [.int .i64 x,.int .i64 y] ((-9223372036854775808<=x/\x<=9223372036854775807)∧-9223372036854775808<=y/\y<=9223372036854775807) (.tup [.int .i64 (wC x y).1,.int .i64 (wC x y).2.1,.bool (wC x y).2.2]):=⟨λhp=>by
 refine aS func127 rfl ?_
 repeat'((try(conv=>whnf));first
  |refine ak ?_ ?_|(with_reducible first|refine aN ?_|refine aI ?_|refine aO (λ_=>?_) (λ_=>?_)|refine aP (λ_=>?_) (λ_=>?_))|refine zad (λ_=>?_) (λ_=>?_)|refine aK ?_ ?_|apply zaa)
 all_goals(try apply zab)
 all_goals(try simp only[ag4,aiW,e16,e48,Gl,WG]at *)
 all_goals first
  |exact hp.1|exact hp.2|(show(0:Int)<=_;decide)|(constructor<;>omega)|(refine Oe ?_;exact aeJ ξ)|(rw[ah1 ω]at *;refine Oe ?_;exact abw (x:=x) (y:=y) ξ)|(rw[ah1 ω]at *;have q1:=w1 (q:=((x.natAbs*y.natAbs/65536:Nat):Int)) ω ξ;have q2:=w2 (q:=((x.natAbs*y.natAbs/65536:Nat):Int)) ω ξ;have q3:=w3 (q:=((x.natAbs*y.natAbs/65536:Nat):Int)) ω ξ;have q4:=w4 (q:=((x.natAbs*y.natAbs/65536:Nat):Int)) ω ξ;rename_i g1 g2 g3 g4 hl;(try rw[q1]at hl);(try rw[q2]at hl);(try rw[q3]at hl);(try rw[q4]at hl);(try rw[q1]);(try rw[q2]);(try rw[q3]);(try rw[q4]);clear q1 q2 q3 q4;first|refine Qp (z:=true) g2 g3 g1 (decide_eq_true ω) rfl rfl ?_|refine Qp (z:=false) g2 g3 g1 (decide_eq_false ω) rfl rfl ?_)
 all_goals first|exact decide_eq_decide.2 ω|exact(decide_eq_false ω).symm⟩
instance(k:Nat):DenI prog 213 [.bool false,.c (.sl 1 (List.replicate k [Cell.v (.int .u32 0)]++[[Cell.v (.int .u32 1)]]))] True (Z ((1000000000 ^ k:Nat):Int)):=⟨λ_=>by
 have h:=(inferInstance:DenI prog 213 [.bool false,.c (dB (List.replicate k 0++[1]))] _ _).den ((gV k).append (Lb.cons ω Lb.nil));rw[Ec]at h;unfold dB at h;rw[UZ,List.map_replicate]at h
 exact h⟩
instance afj(a:Int):DenI prog 214 [Z a] (sz a<=100000000) (.tup [Z (if a<0 then 0 else iC a.natAbs),.int .i64 (if a<0 then 7 else 0)]):=⟨λhp=>by
 refine aS func214 rfl ?_
 repeat'((try(conv=>whnf));first
  |refine aC ?_|refine ak ?_ ?_|(with_reducible refine aO (λ_=>?_) (λ_=>?_))|refine aK ?_ ?_|refine aJ ?_ ?_|apply zaa)
 all_goals(try apply zab)
 all_goals have hl:(lim a.natAbs).length<=100000000:=hp
 all_goals first
  |((conv=>whnf);refine Sw.Loop.inv (α:=Nat) (λx=>[(1,.ptr 1 0),(2,.ptr 2 0),(3,.int .i64 0),(5,.ptr 5 0),(6,.ptr 6 0)]) (λx=>[(1,.var [zs a,zl a]),(2,.var [.v (.bool false),.sl 1 []]),(5,.var [zs x,zl x]),(6,.var [zs 2,zl 2])]) (λx=>0<x/\a.natAbs<(x+1)*(x+1)/\sz x<=200000000) (λx=>x) (1000000000^(((lim a.natAbs).length+1)/2)) ?_ ?_ ?_ (λx hx=>?_))|skip
 all_goals(repeat'((try(conv=>whnf));first
  |refine aC ?_|refine ak ?_ ?_|(with_reducible refine aO (λ_=>?_) (λ_=>?_))|refine zac ζ ?_|apply zaa))
 all_goals(try apply zab)
 all_goals first|(show SubE _ _;repeat'(first|exact trivial|refine And.intro ?_ ?_))|(show SubB _ _;repeat'(first|exact trivial|refine And.intro ?_ ?_))|skip
 all_goals(try rfl)
 all_goals(try simp only[bn]at *)
 all_goals(try simp only[bW,aX,qU,rF]at *)
 all_goals(try rw[LZ ω])
 all_goals(try simp only[dI,AO,rQ,ji,mg])
 all_goals(try simp only[LK (show 0<=a by omega),Lp]at *)
 all_goals first
  |exact PK ξ|exact J7 ξ ξ|with_reducible exact RD ξ ξ ξ|((conv=>whnf);exact⟨(x+a.natAbs/x)/2,⟨⟨rfl,rfl,rfl,rfl,rfl,trivial⟩,⟨rfl,rfl,rfl,rfl,trivial⟩,LP ξ ξ ξ,by show(x+a.natAbs/x)/2<x;omega⟩⟩)|exact Ef rfl hl|(show ld _ _=some _;rfl)|(have z1:=@QV a;have z2:=kE;have z3:=jT;have z4:=jP (n:=2) ω ω;(repeat' apply And.intro)<;>first|assumption|omega|decide|(simp;done)|(have z5:=z1 (x:=x);have z6:=z2 x ((a.natAbs/x:Nat):Int);omega)|skip)⟩
instance afV(a:Rat):DenI prog 57 [R a] (rz a<=10000000) (Ov (dh a)):=⟨λhp=>by
 refine aS func57 rfl ?_
 repeat'((try(conv=>whnf));first
  |refine aC ?_|refine ak ?_ ?_|(with_reducible first|refine aN ?_|refine aI ?_|refine aP (λ_=>?_) (λ_=>?_))|refine zac ζ ?_|apply zaa)
 all_goals(try apply zab)
 all_goals first
  |exact ovN (aiz ξ)|exact ovN (ah2 ξ)|(rename_i g1 g2;rw[if_pos g1,if_pos g2];rfl)|(have z1:=lq a ((65536:Int):Rat);have z2:=ali;have z3:=jK (a*((65536:Int):Rat));have z4:=Yz (-(a*((65536:Int):Rat)));omega)⟩
instance f_add(a b c d:Int):DenI prog 61 [Iv a b,Iv c d] (-2305843009213693952<=a/\a<=2305843009213693952∧-2305843009213693952<=b/\b<=2305843009213693952∧-2305843009213693952<=c/\c<=2305843009213693952∧-2305843009213693952<=d/\d<=2305843009213693952) (Ov (jR (a,b) (c,d))):=⟨λhp=>by
 refine aS func61 rfl ?_
 repeat'((try(conv=>whnf));first
  |refine aC ?_|apply zaa)
 rw[bG ω ω,bG ω ω];rfl⟩
instance akV(n:Int):DenI prog 126 [.int .i64 n] (0<=n/\n<=2305843009213693952) (.tup [.int .i64 (rt n),.bool (decide (rt n*rt n=n*65536))]):=⟨λhp=>by
 refine aS func126 rfl ?_
 repeat'((try(conv=>whnf));first
  |refine aC ?_|refine ak ?_ ?_|refine zac ζ ?_|apply zaa)
 all_goals(try apply zab)
 all_goals(have hn:=Xm hp.1 hp.2;have h0:0=0:=rfl)
 all_goals(try simp only[agX,J5])
 all_goals first
  |exact ibE (if_pos (show -9223372036854775808<=rt n/\rt n<=9223372036854775807 by omega)) rfl|omega|(have z1:=jc n 65536;have z2:=szl n ω ω;have z3:=szl 65536 ω ω;have z4:=szl (rt n) ω ω;omega)⟩
instance al0(l h:Int):DenI prog 59 [Iv l h] (l<=h∧-2305843009213693952<=l/\l<=2305843009213693952∧-2305843009213693952<=h/\h<=2305843009213693952) (Ov (jr (l,h))):=⟨λhp=>by
 refine aS func59 rfl ?_
 repeat'((try(conv=>whnf));first
  |refine aC ?_|refine ak ?_ ?_|(with_reducible first|refine aO (λ_=>?_) (λ_=>?_)|refine aP (λ_=>?_) (λ_=>?_))|apply zaa)
 all_goals(try apply zab)
 all_goals(try rw[ZP]at *)
 all_goals first
  |exact ovN (if_pos ξ)|exact aii ξ ξ|(have hn:=Xm (n:=h) ω ω;rw[bG ω ω];exact aiy ξ ξ)|(constructor<;>omega)⟩
instance anI(a b c d:Int):DenI prog 60 [Iv a b,Iv c d] (-2305843009213693952<=a/\a<=2305843009213693952∧-2305843009213693952<=b/\b<=2305843009213693952∧-2305843009213693952<=c/\c<=2305843009213693952∧-2305843009213693952<=d/\d<=2305843009213693952) (Ov (jL (a,b) (c,d))):=⟨λhp=>by
 refine aS func60 rfl ?_
 all_goals(repeat'((try rw[Jt]);(try rw[EP]);(try(conv=>whnf));first
  |refine ak ?_ ?_|refine dK rfl ?_|refine fA rfl ?_|refine zad (λ_=>?_) (λ_=>?_)|(with_reducible first|refine aj ?_|refine aF ?_)|refine Sw.Loop.unroll ?_|apply zaa))
 all_goals(try apply zab)
 all_goals(try simp only[XH,VK])
 all_goals first
  |exact ovN (yG (.inl rfl) (.inl rfl) (by with_reducible assumption))|exact ovN (yG (.inl rfl) (.inr rfl) (by with_reducible assumption))|exact ovN (yG (.inr rfl) (.inl rfl) (by with_reducible assumption))|exact ovN (yG (.inr rfl) (.inr rfl) (by with_reducible assumption))|(rename_i g1 g2 g3 g4;exact U3 g1 g2 g3 g4)|(constructor<;>constructor<;>omega)⟩
instance ajc(a b c:Rat):DenI prog 20 [Q3 a b c] (rz a<=100000/\rz b<=100000/\rz c<=100000) (Ov (bQ a b c)):=⟨λhp=>by
 refine aS func20 rfl ?_
 repeat'((try(conv=>whnf));first
  |refine aC ?_|refine ak ?_ ?_|(with_reducible first|refine aN ?_|refine aI ?_|refine aO (λ_=>?_) (λ_=>?_))|refine zad (λ_=>?_) (λ_=>?_)|apply zaa)
 all_goals(try apply zab)
 all_goals(try simp only[Prod.eta]at *)
 all_goals first
  |omega|(have z1:=gJ a;have z2:=gJ b;have z3:=gJ c;have z4:=Cm z3;have z5:=oM ((dh b).getD (0,0)) ((jr ((dh c).getD (0,0))).getD (0,0));unfold yT at *;omega)|refine afP ?_|(show Ov (dh a)=_;refine congrArg Ov ?_)|(show Ov (jR _ _)=_;refine congrArg Ov ?_)
 all_goals(unfold bQ;(try simp only[JK,eU]at *);rcases h1:dh a with _|x<;>rcases h2:dh b with _|y<;>rcases h3:dh c with _|z<;>simp_all)
 all_goals(rcases h4:jr z with _|s<;>simp_all)
 all_goals(rcases h5:jL y s with _|p<;>simp_all)⟩
theorem sdE{k:Int}{b:Bool}{p:Int×Bool}(e:(k,b)=p):aW [AV.c (Cell.v (Value.int .i64 k)),AV.c (Cell.v (Value.bool b))]=AV.tup [AV.int .i64 p.1,AV.bool p.2]:=by subst e;rfl
instance ajn(n:Rat)(o:Option (Int × Int)):DenI prog 236 [R n,Iv (o.getD (0,0)).1 (o.getD (0,0)).2,.bool o.isSome] (rz n<=100000/\yT (o.getD (0,0))) (Ov (yt n o)):=⟨λhp=>by
 refine aS func236 rfl ?_
 repeat'((try(conv=>whnf));first
  |refine ak ?_ ?_|(with_reducible first|refine aN ?_|refine aI ?_)|refine zad (λ_=>?_) (λ_=>?_)|apply zaa)
 all_goals(try apply zab)
 all_goals(try simp only[Prod.eta]at *)
 all_goals first
  |omega|(have z1:=gJ n;have z2:=hp.2;unfold yT at *;omega)|refine afP ?_|(show Ov (jL _ _)=_;refine congrArg Ov ?_)
 all_goals(unfold yt;(try generalize bQ a b c=o at *);rcases h1:dh n with _|x<;>rcases o with _|y<;>simp_all)⟩
instance ak4(la lb lc ax bx ay bb c:Rat):DenI prog 156 [Q3 la lb lc,Q5 ax bx ay bb c] (rz la<=100000/\rz lb<=100000/\rz lc<=100000/\rz ax<=100000/\rz bx<=100000/\rz ay<=100000/\rz bb<=100000/\rz c<=100000) (.tup [.int .i64 (Ad la lb lc ax bx ay bb c).1,.bool (Ad la lb lc ax bx ay bb c).2]):=⟨λhp=>by
 refine aS func156 rfl ?_
 repeat'((try(conv=>whnf));first
  |refine aC ?_|refine ak ?_ ?_|(with_reducible first|refine aN ?_|refine aI ?_)|refine zad (λ_=>?_) (λ_=>?_)|refine zac ζ ?_|apply zaa)
 all_goals(try apply zab)
 all_goals(try simp only[Prod.eta]at *)
 all_goals first
  |omega|(have z1:=KQ la (bQ ax bx c);have z2:=KQ lb (bQ ay bb c);have z3:=gJ lc;have z4:=tH z1 z2;have z5:=yH ax bx c;have z6:=yH ay bb c;unfold yT at *;omega)|refine sdE ?_
 all_goals(unfold Ad;generalize yt la (bQ ax bx c)=o1 at *;generalize yt lb (bQ ay bb c)=o2 at *;generalize dh lc=o3 at *;rcases o1 with _|x<;>rcases o2 with _|y<;>rcases o3 with _|z<;>simp_all)
 all_goals(rcases h4:jR x y with _|s<;>simp_all)
 all_goals(rcases h5:jR s (-z.2,-z.1)with _|t<;>simp_all)⟩
instance an0(n:Int):DenI prog 285 [.int .i64 n] (True) (.bool false):=⟨λhp=>by
 refine aS func285 rfl ?_
 all_goals(repeat'((try(conv=>whnf));first
  |apply zaa))
 all_goals first
  |(refine bE ?_;simp)⟩
instance amL(m n:Int):DenI prog 237 [.int .i64 m,.int .i64 n] (True) (.int .i64 (kF m n)):=⟨λhp=>by
 refine aS func237 rfl ?_
 all_goals(repeat'((try(conv=>whnf));first
  |refine aC ?_|(with_reducible first|refine aI ?_|refine aO (λ_=>?_) (λ_=>?_))|apply zaa))
 all_goals first
  |(refine iE ?_;unfold kF;(repeat' split)<;>omega)⟩
instance amX(a b:Rat):DenI prog 157 [R a,R b] (rz a<=10000000/\rz b<=10000000) (.int .i64 (jJ a b)):=⟨λhp=>by
 have:RzB a 10000000:=⟨hp.1⟩
 have:RzB b 10000000:=⟨hp.2⟩
 all_goals refine aS func157 rfl ?_
 all_goals(repeat'((try(conv=>whnf));first
  |refine aC ?_|refine ak ?_ ?_|(with_reducible refine aP (λ_=>?_) (λ_=>?_))|refine zac ζ ?_|apply zaa))
 all_goals(try apply zab)
 all_goals(try simp only[bn]at *)
 all_goals first
  |with_reducible exact afC ξ|rfl|exact zaf⟩
instance amN(a b:Rat):DenC prog 227 [R a,R b] (rz a<=10000000/\rz b<=10000000) (b=0) (.tup [ZR,.int .i64 6]) (.tup [R (a / b),.int .i64 0]):=⟨Ew λhp q e1 e2=>by
 have:RzB a 10000000:=⟨hp.1⟩
 have:RzB b 10000000:=⟨hp.2⟩
 all_goals refine aS func227 rfl ?_
 all_goals(repeat'((try(conv=>whnf));first
  |refine aC ?_|refine ak ?_ ?_|(with_reducible refine aO (λ_=>?_) (λ_=>?_))|refine zac ζ ?_|apply zaa))
 all_goals(try apply zab)
 all_goals(try simp only[bn]at *)
 all_goals first
  |(rw[e1 ξ];rfl)|with_reducible exact acD ξ e2|(refine⟨XD ξ, ?_, ?_⟩<;>exact cO ω)|exact zaf⟩
instance akk(n d:Int):DenI prog 307 [.int .i64 n,.int .i64 d] ((-9223372036854775808<=n/\n<=9223372036854775807)∧-9223372036854775808<=d/\d<=9223372036854775807) (R ((n:Rat) / d)):=⟨λhp=>by
 refine aS func307 rfl ?_
 all_goals(repeat'((try(conv=>whnf));first
  |refine ak ?_ ?_|(with_reducible refine aO (λ_=>?_) (λ_=>?_))|apply zaa))
 all_goals(try apply zab)
 all_goals first
  |rfl|omega|(subst d;exact congrArg R (aeA n))|(have z1:=jP hp.1.1 hp.1.2;have z2:=jP hp.2.1 hp.2.2;omega)⟩
instance alX(a:Int):DenI prog 206 [Z a] (sz a<=10000000) (.tup [Z (if a<0 then 0 else (iC a.natAbs:Nat)),.bool (nC a)]):=⟨λhp=>by
 have i_a:SzB a 10000000:=⟨hp⟩
 all_goals refine aS func206 rfl ?_
 all_goals(repeat'((try(conv=>whnf));first
  |refine aC ?_|refine ak ?_ ?_|(with_reducible first|refine aN ?_|refine aI ?_|refine aO (λ_=>?_) (λ_=>?_))|refine zac ζ ?_|apply zaa))
 all_goals(try apply zab)
 all_goals first
  |with_reducible exact Xq ξ|with_reducible exact YV ξ|exact zaf⟩
instance alv(n d:Int):DenC prog 287 [Z n,Z d] (sz n<=500000000/\sz d<=500000000) (d=0) (.tup [ZR,.int .i64 6]) (.tup [R ((n:Rat) / d),.int .i64 0]):=⟨Ew λhp q e1 e2=>by
 have i_n:SzB n 500000000:=⟨hp.1⟩
 have i_d:SzB d 500000000:=⟨hp.2⟩
 all_goals refine aS func287 rfl ?_
 all_goals(repeat'((try(conv=>whnf));first
  |refine aC ?_|refine ak ?_ ?_|(with_reducible refine aO (λ_=>?_) (λ_=>?_))|apply zaa))
 all_goals(try apply zab)
 all_goals(try simp only[bn]at *)
 all_goals first
  |(rw[e1 ξ];rfl)|(rw[e2 ξ];rfl)|(refine⟨ξ, ?_, ?_⟩<;>exact cO ω)⟩
instance anM(a b:Rat):DenC prog 242 [R a,R b] (rz a<=10000000/\rz b<=10000000) (b=0) (.tup [ZR,.int .i64 6]) (.tup [R (a / b),.int .i64 0]):=⟨Ew λhp q e1 e2=>by
 have:RzB a 10000000:=⟨hp.1⟩
 have:RzB b 10000000:=⟨hp.2⟩
 all_goals refine aS func242 rfl ?_
 all_goals(repeat'((try(conv=>whnf));first
  |refine ak ?_ ?_|refine aQ ?_ (λ_=>?_) (λ_=>?_)|refine zac ζ ?_|apply zaa))
 all_goals(try apply zab)
 all_goals first
  |(rw[e1 (JL ξ)];rfl)|with_reducible exact ahG ξ e2|exact zaf⟩
instance akg(a:Rat):DenC prog 114 [R a] (rz a<=1000000) (fQ a=true) (.tup [R (wE a),.bool true]) (.tup [ZR,.bool false]):=⟨Ew λhp q e1 e2=>by
 have:RzB a 1000000:=⟨hp⟩
 all_goals refine aS func114 rfl ?_
 all_goals(repeat'((try(conv=>whnf));first
  |refine ak ?_ ?_|(with_reducible first|refine aN ?_|refine aI ?_)|refine zad (λ_=>?_) (λ_=>?_)|apply zaa))
 all_goals(try apply zab)
 all_goals first
  |with_reducible exact VZ ξ ξ e1|(rw[e2 (Jm (.inl ξ))];rfl)|(rw[e2 (Jm (.inr ξ))];rfl)|exact zaf⟩
end Go.Proofs.YtdpkjhnfklkkjaaGreat
