/-
  Products of intervals.
  What the filter's laws compute beside the filter: shares, parts, exact signs.
  The examples of the filter's laws.
  Lists of fractions with bounded parts.
  Plain laws of the filter's intervals.
  Parts of intervals lead to parts of the results.
  The sign of A + B sqrt C, out of its sign at two numbers around the root.
  A sign that the filter knows is the exact one.
  Lines and circles: the sign at a point with a root.
  Fractions that are squares, and signs of numbers with a root.
  Roots and points in reduced form, and what lines and circles answer at them.
  Lines, circles and points out of smallI numbers.
  Contracts with two answers.
  Leaves of the runs of fractions, roots and points.
  Plain laws of lines and circles.
  Multiples of lines, and circles through three points.
  The circle through three points.
  Drawings that are repaired: what is computed.
  Drawings that are repaired: the nearest points, and what a second repair does.
  Operations on maps, and a slice of one element, by hand.
  By hand: a call of a function, a variable with a map behind it.
  Conditions: none.
-/
import Derived.Test.YtbbfmlhkgceabaaGreatM9
set_option linter.all false
namespace Go.Sw
open Go
set_option linter.unusedVariables false
set_option linter.unusedSimpArgs false
theorem w01:IntKind.i64.wrap (0+1)=1:=by decide
theorem w11:IntKind.i64.wrap (1+1)=2:=by decide
theorem onB_yes{b:Bool}{k:Bool→Prop}(e:b=true)(h:k true):OnB b k:=⟨λ_=>h,λh'=>by rw [e] at h';cases h'⟩
theorem onB_no{b:Bool}{k:Bool→Prop}(e:b=false)(h:k false):OnB b k:=⟨λh'=>(by rw [e] at h';cases h'),λ_=>h⟩
def dnP(x y:Int):Int:=(x*y) / 65536
def upP(x y:Int):Int:=-((-(x*y)) / 65536)
theorem dn_le(x y:Int):dnP x y≤upP x y:=by unfold dnP upP;omega
theorem scQ_val(x y:Int):scQ x y=(dnP x y,upP x y):=by
 have e:x*y=if (decide (x<0) != decide (y<0))=true then -((scP x y:Nat):Int) else ((scP x y:Nat):Int):=by
  unfold scP
  rw [Int.natCast_mul]
  by_cases h1:x<0<;>by_cases h2:y<0<;>simp only [h1,h2]
  ·have e1:(x.natAbs:Int) = -x:=by omega
   have e2:(y.natAbs:Int) = -y:=by omega
   rw [e1,e2];simp [Int.neg_mul,Int.mul_neg,Int.neg_neg]
  ·have e1:(x.natAbs:Int) = -x:=by omega
   have e2:(y.natAbs:Int)=y:=by omega
   rw [e1,e2];simp [Int.neg_mul,Int.mul_neg,Int.neg_neg]
  ·have e1:(x.natAbs:Int)=x:=by omega
   have e2:(y.natAbs:Int) = -y:=by omega
   rw [e1,e2];simp [Int.neg_mul,Int.mul_neg,Int.neg_neg]
  ·have e1:(x.natAbs:Int)=x:=by omega
   have e2:(y.natAbs:Int)=y:=by omega
   rw [e1,e2];simp [Int.neg_mul,Int.mul_neg,Int.neg_neg]
 unfold scQ dnP upP
 generalize scP x y=p at *
 generalize (decide (x<0) != decide (y<0))=s at *
 rw [e]
 cases s<;>by_cases hm:p % 65536=0<;>simp only [hm,if_true,if_false]<;>(refine Prod.ext ?_ ?_<;>simp<;>omega)
theorem scI_ok{x y:Int}(h:(scI x y).2.2=true):(scI x y).1=dnP x y∧(scI x y).2.1=upP x y∧-2305843009213693952≤dnP x y∧upP x y≤2305843009213693952:=by
 unfold scI at *
 rw [scQ_val] at *
 split at h
 ·exact absurd h (by simp)
 ·rename_i g
  rw [if_neg g]
  exact ⟨rfl,rfl,of_decide_eq_true h⟩
theorem scI_no{x y:Int}(h:¬(scI x y).2.2=true):¬(-2305843009213693952≤dnP x y∧upP x y≤2305843009213693952):=by
 have q:=scQ_val x y
 unfold scI at h
 rw [q] at h
 split at h
 ·rename_i g
  unfold scQ at q
  generalize scP x y=p at *
  intro ⟨h1,h2⟩
  generalize (decide (x<0) != decide (y<0))=s at *
  have q1:=congrArg Prod.fst q
  have q2:=congrArg Prod.snd q
  cases s<;>by_cases hm:p % 65536=0<;>simp only [hm,if_true,if_false] at q1 q2<;>simp at q1 q2<;>omega
 ·intro ⟨h1,h2⟩
  exact h (decide_eq_true ⟨h1,h2⟩)
def mulI(a b:Int × Int):Option (Int × Int) :=
 mkI (min (min (dnP a.1 b.1) (dnP a.1 b.2)) (min (dnP a.2 b.1) (dnP a.2 b.2))) (max (max (upP a.1 b.1) (upP a.1 b.2)) (max (upP a.2 b.1) (upP a.2 b.2)))
theorem nb{b:Bool}(h:(!b)=true):¬b=true:=by cases b<;>simp_all
theorem nb'{b:Bool}(h:(!b)=false):b=true:=by cases b<;>simp_all
theorem min_fold(u v:Int):List.foldl (λx y=>if y<x then y else x) u [v]=min u v:=by
 show (if v<u then v else u)=min u v
 split<;>omega
theorem max_fold(u v:Int):List.foldl (λx y=>if y > x then y else x) u [v]=max u v:=by
 show (if v > u then v else u)=max u v
 split<;>omega
theorem mul_none{a b c d x y:Int}(hx:x=a∨x=b)(hy:y=c∨y=d)(h:(!(scI x y).2.2)=true):mulI (a,b) (c,d)=none:=by
 have:=scI_no (nb h)
 apply mkI_no
 rcases hx with rfl|rfl<;>rcases hy with rfl|rfl<;>simp only<;>omega
theorem mul_some{a b c d:Int}(h1:(!(scI a c).2.2)=false)(h2:(!(scI a d).2.2)=false)(h3:(!(scI b c).2.2)=false)(h4:(!(scI b d).2.2)=false):
 packA [AV.agg [Cell.v (Value.int .i64 (min (min (min (min 2305843009213693952 (scI a c).1) (scI a d).1) (scI b c).1) (scI b d).1)),Cell.v (Value.int .i64 (max (max (max (max (-2305843009213693952) (scI a c).2.1) (scI a d).2.1) (scI b c).2.1) (scI b d).2.1))],AV.c (Cell.v (Value.bool true))]=Ov (mulI (a,b) (c,d)):=by
 obtain ⟨e1,e2,e3,e4⟩:=scI_ok (nb' h1)
 obtain ⟨f1,f2,f3,f4⟩:=scI_ok (nb' h2)
 obtain ⟨g1,g2,g3,g4⟩:=scI_ok (nb' h3)
 obtain ⟨k1,k2,k3,k4⟩:=scI_ok (nb' h4)
 have d1:=dn_le a c
 have d2:=dn_le a d
 have d3:=dn_le b c
 have d4:=dn_le b d
 rw [e1,e2,f1,f2,g1,g2,k1,k2]
 unfold mulI
 rw [mkI_yes (by simp only;omega) (by simp only;omega)]
 refine ovE ?_ ?_ rfl<;>simp only [Option.getD_some]<;>omega
@[reducible] def Q3(a b c:Rat):AV:=.agg [zs a.num,zl a.num,zs a.den,zl a.den,zs b.num,zl b.num,zs b.den,zl b.den,zs c.num,zl c.num,zs c.den,zl c.den]
def rootI(a b c:Rat):Option (Int × Int) :=
 match fromR a with
 |none=>none
 |some x=>if b=0 then some x else
  match fromR b,fromR c with
  |some y,some z=>if c<0 then none else
   match sqrtI z with
   |none=>none
   |some s=>match mulI y s with
    |none=>none
    |some p=>addI x p
  |_,_=>none
def hw(a b c d:Int):Nat→Int
 |0=>0|1=>upP a c|2=>max (upP a c) (upP a d)|3=>max (max (upP a c) (upP a d)) (upP b c)|_=>max (max (max (upP a c) (upP a d)) (upP b c)) (upP b d)
def kI:Nat→Int|0=>0|1=>1|_=>2
theorem hw1(a b c d:Int):hw a b c d 1=upP a c:=rfl
theorem hw2(a b c d:Int):hw a b c d 2=max (upP a c) (upP a d):=rfl
theorem k1:some (AV.int .i64 (IntKind.i64.wrap (0+1)))=some (AV.int .i64 (kI 1)):=by rw [w01];rfl
theorem k2:some (AV.int .i64 (IntKind.i64.wrap (1+1)))=some (AV.int .i64 (kI 2)):=by rw [w11];rfl
def ivB(x:Int × Int):Prop:=-2305843009213693952≤x.1∧x.1≤x.2∧x.2≤2305843009213693952
theorem ivB_from(a:Rat):ivB ((fromR a).getD (0,0)):=fromR_ok a
theorem ivB_mul(x y:Int × Int):ivB ((mulI x y).getD (0,0)):=mkI_ok _ rfl (by have:=dn_le x.1 y.1;omega)
theorem ivB_sqrt{x:Int × Int}(h:ivB x):ivB ((sqrtI x).getD (0,0)):=by
 unfold sqrtI
 split
 ·exact ⟨by decide,by decide,by decide⟩
 ·rename_i g
  refine mkI_ok _ rfl ?_
  have:=rt_mono (l:=max x.1 0) (h:=x.2) (by omega) (by unfold ivB at h;omega)
  have:=(rtU_ok (n:=x.2) (by omega)).1
  omega
theorem ivB_add{x y:Int × Int}(h1:ivB x)(h2:ivB y):ivB ((addI x y).getD (0,0)):=mkI_ok _ rfl (by unfold ivB at *;omega)
theorem ovN1{o:Option (Int × Int)}(e:(none:Option (Int × Int))=o):packA [AV.agg [Cell.v (Value.int .i64 0),Cell.v (Value.int .i64 0)],AV.c (Cell.v (Value.bool false))]=Ov o:=by subst e;rfl
end Go.Sw
namespace Go.Sw
open Go
set_option linter.unusedVariables false
theorem sgnR_lim(a:Rat):-1≤sgnR a∧sgnR a≤1:=by unfold sgnR;split<;>(try split)<;>omega
theorem cmpR_lim(a b:Rat):-1≤cmpR a b∧cmpR a b≤1:=by unfold cmpR;split<;>(try split)<;>omega
theorem one_mul_lim{x y:Int}(h1 : -1≤x∧x≤1)(h2 : -1≤y∧y≤1):-1≤x*y∧x*y≤1:=by
 have a:x = -1∨x=0∨x=1:=by omega
 rcases a with rfl|rfl|rfl<;>omega
theorem w_ss(a b:Rat):IntKind.i64.wrap (sgnR a*sgnR b)=sgnR a*sgnR b:=by
 have:=one_mul_lim (sgnR_lim a) (sgnR_lim b)
 exact wi64 (by omega) (by omega)
theorem w_sc(a b c:Rat):IntKind.i64.wrap (sgnR a*cmpR b c)=sgnR a*cmpR b c:=by
 have:=one_mul_lim (sgnR_lim a) (cmpR_lim b c)
 exact wi64 (by omega) (by omega)
def exI(a b c:Rat):Int :=
 if sgnR a=sgnR b*sgnR c∨sgnR b*sgnR c=0 then sgnR a
 else if sgnR a=0 then sgnR b*sgnR c
 else sgnR a*cmpR (a*a) (b*b*c)
theorem rz_q(n d:Int)(h0:d≠0)(h1 : -9223372036854775808≤n∧n≤9223372036854775807)(h2 : -9223372036854775808≤d∧d≤9223372036854775807):rz ((n:Rat) / (d:Rat))≤6:=by
 have:=rz_red (n:=n) h0;have:=sz_64 h1.1 h1.2;have:=sz_64 h2.1 h2.2;omega
theorem lin_lo{a b x k L:Rat}(h1:a≤x)(h2:x≤b)(p:L≤a*k)(q:L≤b*k):L≤x*k:=by
 rcases Rat.le_total (a:=0) (b:=k) with hk|hk
 ·have:=Rat.mul_le_mul_of_nonneg_right h1 hk;grind
 ·have:=Rat.mul_le_mul_of_nonneg_right h2 (show 0≤-k by grind);grind
theorem bil_lo{a b c d x y L:Rat}(h1:a≤x)(h2:x≤b)(h3:c≤y)(h4:y≤d)(p1:L≤a*c)(p2:L≤a*d)(p3:L≤b*c)(p4:L≤b*d):L≤x*y:=by
 apply lin_lo h1 h2
 ·rw [Rat.mul_comm];exact lin_lo h3 h4 (by rw [Rat.mul_comm];exact p1) (by rw [Rat.mul_comm];exact p2)
 ·rw [Rat.mul_comm];exact lin_lo h3 h4 (by rw [Rat.mul_comm];exact p3) (by rw [Rat.mul_comm];exact p4)
theorem bil_hi{a b c d x y L:Rat}(h1:a≤x)(h2:x≤b)(h3:c≤y)(h4:y≤d)(p1:a*c≤L)(p2:a*d≤L)(p3:b*c≤L)(p4:b*d≤L):x*y≤L:=by
 have:=bil_lo (L:=-L) (a:=-b) (b:=-a) (x:=-x) (y:=y) (c:=c) (d:=d) (by grind) (by grind) h3 h4 (by grind) (by grind) (by grind) (by grind)
 grind
theorem dn_rat(x y:Int):((dnP x y:Int):Rat)*65536≤(x:Rat)*(y:Rat):=by
 have h:((dnP x y*65536:Int):Rat)≤((x*y:Int):Rat):=Rat.intCast_le_intCast.2 (by unfold dnP;omega)
 rw [Rat.intCast_mul,Rat.intCast_mul] at h
 exact h
theorem up_rat(x y:Int):(x:Rat)*(y:Rat)≤((upP x y:Int):Rat)*65536:=by
 have h:((x*y:Int):Rat)≤((upP x y*65536:Int):Rat):=Rat.intCast_le_intCast.2 (by unfold upP;omega)
 rw [Rat.intCast_mul,Rat.intCast_mul] at h
 exact h
def con(p:Int × Int)(q:Rat):Prop:=(p.1:Rat)≤q*65536∧q*65536≤(p.2:Rat)
theorem mkI_some{l h:Int}{p:Int × Int}(e:mkI l h=some p):p=(l,h):=by
 unfold mkI at e
 split at e
 ·injection e with e;exact e.symm
 ·cases e
theorem con_add{x y p:Int × Int}{u v:Rat}(e:addI x y=some p)(hu:con x u)(hv:con y v):con p (u+v):=by
 have:=mkI_some e
 subst this
 unfold con at *
 simp only [Rat.intCast_add]
 obtain ⟨h1,h2⟩:=hu
 obtain ⟨h3,h4⟩:=hv
 constructor<;>grind
theorem con_mul{x y p:Int × Int}{u v:Rat}(e:mulI x y=some p)(hu:con x u)(hv:con y v):con p (u*v):=by
 have:=mkI_some e
 subst this
 unfold con at *
 obtain ⟨h1,h2⟩:=hu
 obtain ⟨h3,h4⟩:=hv
 simp only
 generalize hl:min (min (dnP x.1 y.1) (dnP x.1 y.2)) (min (dnP x.2 y.1) (dnP x.2 y.2))=l
 generalize hh:max (max (upP x.1 y.1) (upP x.1 y.2)) (max (upP x.2 y.1) (upP x.2 y.2))=h
 have lo:∀a c:Int,l≤dnP a c→(l:Rat)*65536≤(a:Rat)*(c:Rat):=λa c hd=>by
  have k1:=dn_rat a c
  have k2:=Rat.intCast_le_intCast.2 hd
  grind
 have hi:∀a c:Int,upP a c≤h→(a:Rat)*(c:Rat)≤(h:Rat)*65536:=λa c hd=>by
  have k1:=up_rat a c
  have k2:=Rat.intCast_le_intCast.2 hd
  grind
 have b1:=bil_lo h1 h2 h3 h4 (lo _ _ (by omega)) (lo _ _ (by omega)) (lo _ _ (by omega)) (lo _ _ (by omega))
 have b2:=bil_hi h1 h2 h3 h4 (hi _ _ (by omega)) (hi _ _ (by omega)) (hi _ _ (by omega)) (hi _ _ (by omega))
 constructor<;>grind
theorem c65:((65536:Int):Rat)=65536:=by decide +kernel
theorem c1:((1:Int):Rat)=1:=by decide +kernel
theorem con_sqrt{x p:Int × Int}{q:Rat}(e:sqrtI x=some p)(hx:con x q)(h0:0≤q):
 (p.1:Rat)*(p.1:Rat)≤q*(65536*65536)∧q*(65536*65536)≤(p.2:Rat)*(p.2:Rat)∧0≤p.1∧p.1≤p.2:=by
 unfold sqrtI at e
 split at e
 ·cases e
 ·rename_i g
  have:=mkI_some e
  subst this
  unfold con at hx
  obtain ⟨h1,h2⟩:=hx
  have hle:max x.1 0≤x.2:=by
   have:((x.1:Int):Rat)≤(x.2:Rat):=Rat.le_trans h1 h2
   have:=Rat.intCast_le_intCast.1 this
   omega
  have r1:=rt_ok (n:=max x.1 0) (by omega)
  have r2:=rtU_ok (n:=x.2) (by omega)
  have r3:=rt_mono (l:=max x.1 0) (h:=x.2) (by omega) hle
  have hm:((max x.1 0:Int):Rat)≤q*65536:=by
   rcases Int.le_total x.1 0 with h|h
   ·rw [show max x.1 0=0 by omega];have:((0:Int):Rat)=0:=rfl;rw [this];grind
   ·rw [show max x.1 0=x.1 by omega];exact h1
  have k1:=Rat.intCast_le_intCast.2 r1.2.1
  have k2:=Rat.intCast_le_intCast.2 r2.2.2
  rw [Rat.intCast_mul,Rat.intCast_mul,c65] at k1 k2
  refine ⟨by simp only;grind,by simp only;grind,r1.1,by simp only;omega⟩
def sub(x y:Int × Int):Prop:=x.1≤y.1∧y.1≤y.2∧y.2≤x.2
theorem con_from{a:Rat}{x:Int × Int}(e:fromR a=some x):con x a:=by
 have:=mkI_some e
 subst this
 unfold con upR
 rw [c65]
 simp only
 refine ⟨Rat.floor_le _, ?_⟩
 have:=Rat.floor_le (-(a*65536))
 rw [Rat.intCast_neg]
 grind
theorem sgn_cases(q:Rat):(q<0∧sgnR q = -1)∨(q=0∧sgnR q=0)∨(0<q∧sgnR q=1):=by
 unfold sgnR
 by_cases h1:q<0
 ·rw [if_pos h1];exact .inl ⟨h1,rfl⟩
 ·rw [if_neg h1]
  by_cases h2:q=0
  ·rw [if_pos h2];exact .inr (.inl ⟨h2,rfl⟩)
  ·rw [if_neg h2];exact .inr (.inr ⟨by grind,rfl⟩)
theorem sq_lt{x y:Rat}(h0:0≤x)(h:x<y):x*x<y*y:=by
 have a1:=Rat.mul_le_mul_of_nonneg_left (Rat.le_of_lt h) h0
 have a2:=Rat.mul_lt_mul_of_pos_right h (show 0<y by grind)
 grind
theorem cmpR_1{a b:Rat}(h:b<a):cmpR a b=1:=by unfold cmpR;rw [if_neg (by grind),if_pos h]
theorem cmpR_m{a b:Rat}(h:a<b):cmpR a b = -1:=by unfold cmpR;rw [if_pos h]
theorem cmpR_z{a b:Rat}(h:a=b):cmpR a b=0:=cmpR_eq0.2 h
theorem exI_zero{a c:Rat}:exI a 0 c=sgnR a:=by
 unfold exI
 have:sgnR 0=0:=sgnR_eq0.2 rfl
 rw [this,Int.zero_mul,if_pos (.inr rfl)]
class RzB (q:Rat) (n:outParam Nat):Prop where
 h:rz q≤n
theorem rzb{q:Rat}{n N:Nat}[k:RzB q n](h:n≤N):rz q≤N:=Nat.le_trans k.h h
instance{a b:Rat}{m n:Nat}[h:RzB a m][k:RzB b n]:RzB (a+b) (2*(m+n)+1):=⟨by have:=rz_add a b;have:=h.h;have:=k.h;omega⟩
instance{a b:Rat}{m n:Nat}[h:RzB a m][k:RzB b n]:RzB (a-b) (2*(m+n)+1):=⟨by have:=rz_sub a b;have:=h.h;have:=k.h;omega⟩
instance{a b:Rat}{m n:Nat}[h:RzB a m][k:RzB b n]:RzB (a*b) (m+n):=⟨by have:=rz_mul a b;have:=h.h;have:=k.h;omega⟩
instance{a:Rat}{m:Nat}[h:RzB a m]:RzB (-a) m:=⟨by rw [rz_neg];exact h.h⟩
def isSq(n:Int):Bool:=decide (0≤n) && decide ((((isq n.natAbs:Nat):Int))*((isq n.natAbs:Nat):Int)=n)
def isSqR(a:Rat):Bool:=isSq a.num && isSq a.den
def sqR(a:Rat):Rat:=((((isq a.num.natAbs:Nat):Int)):Rat) / ((((isq (a.den:Int).natAbs:Nat):Int)):Rat)
theorem isSq_iff{n:Int}:isSq n=true↔∃m:Nat,(m:Int)*m=n:=by
 unfold isSq
 rw [Bool.and_eq_true,decide_eq_true_eq,decide_eq_true_eq]
 constructor
 ·rintro ⟨_,h⟩;exact ⟨_,h⟩
 ·rintro ⟨m,rfl⟩
  have e:((m:Int)*m).natAbs=m*m:=by rw [Int.natAbs_mul,Int.natAbs_natCast]
  have h:isq (m*m)=m:=(isq_uniq (Nat.le_refl _) (Nat.mul_lt_mul'' (by omega) (by omega))).symm
  rw [e,h]
  exact ⟨Int.mul_nonneg (by omega) (by omega),rfl⟩
theorem sq_nat{n:Int}(h:isSq n=true):((isq n.natAbs:Nat):Int)*((isq n.natAbs:Nat):Int)=n:=by
 unfold isSq at h
 rw [Bool.and_eq_true,decide_eq_true_eq,decide_eq_true_eq] at h
 exact h.2
theorem sqR_parts{a:Rat}(h:isSqR a=true):(sqR a).num=((isq a.num.natAbs:Nat):Int)∧((sqR a).den:Int)=((isq (a.den:Int).natAbs:Nat):Int):=by
 unfold isSqR at h
 rw [Bool.and_eq_true] at h
 obtain ⟨h1,h2⟩:=h
 have e1:=sq_nat h1
 have e2:=sq_nat h2
 have hd:=den_pos a
 have hp:0<((isq (a.den:Int).natAbs:Nat):Int):=by
  rcases Nat.eq_zero_or_pos (isq (a.den:Int).natAbs) with h0|h0
  ·rw [h0] at e2;simp at e2;omega
  ·omega
 have hg:Nat.gcd (isq a.num.natAbs) (isq (a.den:Int).natAbs)=1:=by
  have hc:=a.reduced
  have d1:Nat.gcd (isq a.num.natAbs) (isq (a.den:Int).natAbs) ∣ a.num.natAbs:=by
   have:a.num.natAbs=isq a.num.natAbs*isq a.num.natAbs:=by
    have:=congrArg Int.natAbs e1;rw [Int.natAbs_mul,Int.natAbs_natCast] at this;exact this.symm
   exact Nat.dvd_trans (Nat.gcd_dvd_left _ _) ⟨_,this⟩
  have d2:Nat.gcd (isq a.num.natAbs) (isq (a.den:Int).natAbs) ∣ a.den:=by
   have:a.den=isq (a.den:Int).natAbs*isq (a.den:Int).natAbs:=by
    have:=congrArg Int.natAbs e2;rw [Int.natAbs_mul,Int.natAbs_natCast] at this;exact this.symm
   exact Nat.dvd_trans (Nat.gcd_dvd_right _ _) ⟨_,this⟩
  exact Nat.eq_one_of_dvd_one (hc ▸ Nat.dvd_gcd d1 d2)
 obtain ⟨q1,q2⟩:=red_pos (n:=((isq a.num.natAbs:Nat):Int)) hp
 change Nat.gcd (((isq a.num.natAbs:Nat):Int)).natAbs (((isq (a.den:Int).natAbs:Nat):Int)).natAbs=1 at hg
 rw [hg] at q1 q2
 exact ⟨by unfold sqR;rw [q1];exact fdiv_one _,by unfold sqR;rw [q2];exact fdiv_one _⟩
where
 num_den_div {a:Rat}:a=(a.num:Rat) / ((a.den:Int):Rat):=by
  have h1:=num_den a
  have h2:=den_ne' a
  rw [h1];grind
theorem sq_parts(s:Rat):(s*s).num=s.num*s.num∧((s*s).den:Int)=s.den*s.den:=by
 have hp:(0:Int)<s.den*s.den:=Int.mul_pos (den_pos s) (den_pos s)
 obtain ⟨q1,q2⟩:=red_pos (n:=s.num*s.num) hp
 have hg:Nat.gcd (s.num*s.num).natAbs ((s.den:Int)*s.den).natAbs=1:=by
  rw [Int.natAbs_mul,Int.natAbs_mul,Int.natAbs_natCast]
  have hc:Nat.Coprime s.num.natAbs s.den:=s.reduced
  exact Nat.Coprime.mul_right (Nat.Coprime.mul_left hc hc) (Nat.Coprime.mul_left hc hc)
 rw [hg] at q1 q2
 rw [mul_div] at q1 q2
 exact ⟨q1.trans (fdiv_one _),q2.trans (fdiv_one _)⟩
theorem isSqR_of{a s:Rat}(h:s*s=a):isSqR a=true:=by
 subst h
 obtain ⟨h1,h2⟩:=sq_parts s
 unfold isSqR
 rw [Bool.and_eq_true]
 refine ⟨isSq_iff.2 ⟨s.num.natAbs, ?_⟩,isSq_iff.2 ⟨s.den,h2.symm⟩⟩
 rw [h1]
 have:=Int.natAbs_mul_self (a:=s.num)
 exact this
end Go.Sw
namespace Go.Sw
open Go
set_option linter.unusedVariables false
@[reducible] def ZQ3:AV:=.agg [.v (.bool false),.sl 1 [],.v (.bool false),.sl 1 [],.v (.bool false),.sl 1 [],.v (.bool false),.sl 1 [],.v (.bool false),.sl 1 [],.v (.bool false),.sl 1 []]
def redB(b c:Rat):Rat:=if b=0∨c=0 then 0 else b
def redC(b c:Rat):Rat:=if b=0∨c=0 then 0 else c
def mkA(a b c:Rat):Rat:=if isSqR c=true then a+b*sqR c else a
def mkB(b c:Rat):Rat:=if isSqR c=true then 0 else redB b c
def mkC(b c:Rat):Rat:=if isSqR c=true then 0 else redC b c
def cooC(b c:Rat):Rat:=if b=0 then 0 else c
def ptC(b e c:Rat):Rat:=if b=0∧e=0 then 0 else c
theorem isSqR_0:isSqR 0=true:=isSqR_of (s:=0) (by grind)
theorem nsq_ne{c:Rat}(h:isSqR c=false):c≠0:=λe=>by rw [e,isSqR_0] at h;cases h
theorem redB_of{b c:Rat}(h:isSqR c=false):redB b c=b:=by
 unfold redB
 split
 ·rename_i e;rcases e with e|e
  ·exact e.symm
  ·exact absurd e (nsq_ne h)
 ·rfl
theorem redC_of{b c:Rat}(h:isSqR c=false):redC b c=if b=0 then 0 else c:=by
 unfold redC
 by_cases e:b=0
 ·rw [if_pos (.inl e),if_pos e]
 ·rw [if_neg (by rintro (h'|h');exact e h';exact nsq_ne h h'),if_neg e]
section
variable {a b:Rat}
end
end Go.Sw
namespace Go.Sw
open Go
set_option linter.unusedVariables false
theorem rz_sqR{c:Rat}(h:isSqR c=true):rz (sqR c)≤rz c:=by
 obtain ⟨h1,h2⟩:=sqR_parts h
 have k:∀n:Nat,isq n≤n:=λn=>by
  have h3:=(isq_ok n).1
  rcases Nat.eq_zero_or_pos (isq n) with h4|h4
  ·omega
  ·exact Nat.le_trans (Nat.le_mul_of_pos_left _ h4) h3
 unfold rz
 rw [h1,h2]
 have a1:=sz_mono (a:=((isq c.num.natAbs:Nat):Int)) (b:=c.num) (by rw [Int.natAbs_natCast];exact k _)
 have a2:=sz_mono (a:=((isq (c.den:Int).natAbs:Nat):Int)) (b:=(c.den:Int)) (by rw [Int.natAbs_natCast];exact k _)
 omega
theorem rz_0:rz 0≤1:=by decide +kernel
instance:RzB 0 1:=⟨rz_0⟩
theorem rz_mkA{a b c:Rat}{m n k:Nat}(h1:rz a≤m)(h2:rz b≤n)(h3:rz c≤k):rz (mkA a b c)≤2*(m+(n+k))+1:=by
 unfold mkA
 split
 ·rename_i h
  have:=rz_add a (b*sqR c);have:=rz_mul b (sqR c);have:=rz_sqR h;omega
 ·omega
theorem rz_mkB{b c:Rat}{n:Nat}(h2:rz b≤n):rz (mkB b c)≤n+1:=by
 have:=rz_0
 unfold mkB redB
 split
 ·omega
 ·split<;>omega
theorem rz_mkC{b c:Rat}{n:Nat}(h2:rz c≤n):rz (mkC b c)≤n+1:=by
 have:=rz_0
 unfold mkC redC
 split
 ·omega
 ·split<;>omega
theorem rz_cooC{b c:Rat}{n:Nat}(h2:rz c≤n):rz (cooC b c)≤n+1:=by
 have:=rz_0
 unfold cooC
 split<;>omega
instance{a b c:Rat}{m n k:Nat}[h1:RzB a m][h2:RzB b n][h3:RzB c k]:RzB (mkA a b c) (2*(m+(n+k))+1):=⟨rz_mkA h1.h h2.h h3.h⟩
instance{b c:Rat}{n:Nat}[h2:RzB b n]:RzB (mkB b c) (n+1):=⟨rz_mkB h2.h⟩
instance{b c:Rat}{n:Nat}[h2:RzB c n]:RzB (mkC b c) (n+1):=⟨rz_mkC h2.h⟩
instance{b c:Rat}{n:Nat}[h2:RzB c n]:RzB (cooC b c) (n+1):=⟨rz_cooC h2.h⟩
instance{p:Prop}[Decidable p]{a b:Rat}{m n:Nat}[h1:RzB a m][h2:RzB b n]:RzB (if p then a else b) (m+n):=⟨by split;exact Nat.le_trans h1.h (by omega);exact Nat.le_trans h2.h (by omega)⟩
end Go.Sw
namespace Go.Sw
open Go Go.RowKit
set_option linter.unusedVariables false
class DenC (P:Program) [Wld P] (f:FuncId) (xs:List AV) (pre:outParam Prop) (c:outParam Prop) (r s:outParam AV):Prop where
 den:pre→(c→Den P f xs r)∧(¬c→Den P f xs s)
theorem call_c{P:Program}[Wld P]{f:FuncId}{xs:List AV}{pre c:Prop}{r s:AV}{k:AV→Prop}[h:DenC P f xs pre c r s](hp:Pr pre)(h1:c→k r)(h2:¬c→k s):CallP (Den P) f xs k:=by
 by_cases hc:c
 ·exact ⟨r,(h.den hp.p).1 hc,h1 hc⟩
 ·exact ⟨s,(h.den hp.p).2 hc,h2 hc⟩
theorem denC{P:Program}[Wld P]{f:FuncId}{xs:List AV}{pre c:Prop}{r s:AV}(h:pre→∀q,(c→q=r)→(¬c→q=s)→Den P f xs q)(hp:pre):(c→Den P f xs r)∧(¬c→Den P f xs s) :=
 ⟨λhc=>h hp r (λ_=>rfl) (λn=>absurd hc n),λhc=>h hp s (λn=>absurd n hc) (λ_=>rfl)⟩
end Go.Sw
namespace Go.Sw
open Go
set_option linter.unusedVariables false
class SzB (n:Int) (k:outParam Nat):Prop where
 h:sz n≤k
theorem szb{n:Int}{k K:Nat}[i:SzB n k](h:k≤K):sz n≤K:=Nat.le_trans i.h h
instance{q:Rat}{n:Nat}[i:RzB q n]:SzB q.num n:=⟨Nat.le_trans (rz_num q) i.h⟩
instance{q:Rat}{n:Nat}[i:RzB q n]:SzB (q.den:Int) n:=⟨Nat.le_trans (rz_den q) i.h⟩
instance{a b:Int}{m n:Nat}[i:SzB a m][j:SzB b n]:SzB (a*b) (m+n):=⟨by have:=sz_mul a b;have:=i.h;have:=j.h;omega⟩
instance{p:Prop}[Decidable p]{a b:Int}{m n:Nat}[h1:SzB a m][h2:SzB b n]:SzB (if p then a else b) (m+n):=⟨by split;exact Nat.le_trans h1.h (by omega);exact Nat.le_trans h2.h (by omega)⟩
instance:SzB 0 3:=⟨sz_64 (by decide) (by decide)⟩
theorem isq_le(n:Nat):isq n≤n:=by
 have h3:=(isq_ok n).1
 rcases Nat.eq_zero_or_pos (isq n) with h4|h4
 ·omega
 ·exact Nat.le_trans (Nat.le_mul_of_pos_left _ h4) h3
instance{a:Int}{m:Nat}[i:SzB a m]:SzB ((isq a.natAbs:Nat):Int) m:=⟨Nat.le_trans (sz_mono (by rw [Int.natAbs_natCast];exact isq_le _)) i.h⟩
instance{c:Rat}{n:Nat}[i:RzB c n]:RzB (sqR c) n:=⟨by
 have hd:((isq (c.den:Int).natAbs:Nat):Int)≠0:=by
  have h1:=(isq_ok (c.den:Int).natAbs).2
  have h2:=den_pos c
  intro e
  have:isq (c.den:Int).natAbs=0:=by omega
  rw [this] at h1;omega
 have:=rz_red (n:=((isq c.num.natAbs:Nat):Int)) hd
 have a1:=sz_mono (a:=((isq c.num.natAbs:Nat):Int)) (b:=c.num) (by rw [Int.natAbs_natCast];exact isq_le _)
 have a2:=sz_mono (a:=((isq (c.den:Int).natAbs:Nat):Int)) (b:=(c.den:Int)) (by rw [Int.natAbs_natCast];exact isq_le _)
 have h:=i.h
 unfold rz at h
 unfold sqR
 omega⟩
section
variable {a b c:Rat}
end
section
variable {a b c:Rat} {q:AV}
theorem cmp_sg(h:¬sgnR a=sgnR b):packA [AV.c (Cell.v (.int .i64 (cmpI (sgnR a) (sgnR b))))]=AV.int .i64 (cmpR a b):=iE (by
 rcases sgn_cases a with ⟨a1,a2⟩|⟨a1,a2⟩|⟨a1,a2⟩<;>rcases sgn_cases b with ⟨b1,b2⟩|⟨b1,b2⟩|⟨b1,b2⟩<;>rw [a2,b2] at h ⊢<;>first
  |exact absurd rfl h
  |(rw [cmpR_m (by grind)];rfl)
  |(rw [cmpR_1 (by grind)];rfl))
theorem div_1(hb:¬b=0)(e:¬b=0→q=AV.tup [R (a / b),AV.int .i64 0]):packA [R (((a.num*b.den:Int):Rat) / ((a.den*b.num:Int):Rat)),AV.c (Cell.v (.int .i64 0))]=q:=by
 rw [e hb,div_div a b hb];rfl
theorem den_num0(h:(a.den:Int)*b.num=0):b=0:=by
 rcases Int.mul_eq_zero.1 h with h|h
 ·exact absurd h (den_ne a)
 ·exact (num_eq0 b).1 h
theorem div_2(h:¬(a.den:Int)*b.num=0)(e:¬b=0→q=AV.tup [R (a / b),AV.int .i64 0]):packA [R (((a.num*b.den:Int):Rat) / ((a.den*b.num:Int):Rat)),AV.c (Cell.v (.int .i64 0))]=q :=
 div_1 (λe=>h (by rw [e];simp)) e
theorem den_num1(h:¬b=0):(a.den:Int)*b.num≠0:=λe=>h (den_num0 e)
theorem frac_0(n:Int):((0:Int):Rat)=(n:Rat) / ((0:Int):Rat):=by rw [← frac0 n];decide +kernel
theorem perf_1{x:Int}(h:(if x<0 then (7:Int) else 0)=0):packA [Z (if x<0 then 0 else (isq x.natAbs:Nat)),AV.c (Cell.v (.bool (decide ((if x<0 then 0 else ((isq x.natAbs:Nat):Int))*(if x<0 then 0 else ((isq x.natAbs:Nat):Int))=x))))]=AV.tup [Z (if x<0 then 0 else (isq x.natAbs:Nat)),AV.bool (isSq x)]:=by
 have h0:¬x<0:=λh1=>by rw [if_pos h1] at h;exact absurd h (by decide)
 have e:isSq x=decide ((if x<0 then 0 else ((isq x.natAbs:Nat):Int))*(if x<0 then 0 else ((isq x.natAbs:Nat):Int))=x):=by
  unfold isSq
  rw [if_neg h0,decide_eq_true (show 0≤x by omega),Bool.true_and]
 rw [e];rfl
theorem perf_2{x:Int}(h:¬(if x<0 then (7:Int) else 0)=0):packA [Z (if x<0 then 0 else (isq x.natAbs:Nat)),AV.c (Cell.v (.bool false))]=AV.tup [Z (if x<0 then 0 else (isq x.natAbs:Nat)),AV.bool (isSq x)]:=by
 have h0:x<0:=Decidable.byContradiction λh1=>h (by rw [if_neg h1])
 have e:isSq x=false:=by
  unfold isSq
  rw [decide_eq_false (show ¬0≤x by omega),Bool.false_and]
 rw [e];rfl
theorem sqrt_1(h1:(!isSq a.num)=false)(h2:(!isSq a.den)=false)(e:isSqR a=true→q=AV.tup [R (sqR a),AV.bool true]):
 packA [AV.agg [zs (if a.num<0 then 0 else (isq a.num.natAbs:Nat)),zl (if a.num<0 then 0 else (isq a.num.natAbs:Nat)),zs (if (a.den:Int)<0 then 0 else (isq (a.den:Int).natAbs:Nat)),zl (if (a.den:Int)<0 then 0 else (isq (a.den:Int).natAbs:Nat))],AV.c (Cell.v (.bool true))]=q:=by
 have k1:isSq a.num=true:=by simpa using h1
 have k2:isSq a.den=true:=by simpa using h2
 have k:isSqR a=true:=by unfold isSqR;rw [k1,k2];rfl
 obtain ⟨p1,p2⟩:=sqR_parts k
 have n1:¬a.num<0:=by
  unfold isSq at k1
  rw [Bool.and_eq_true,decide_eq_true_eq] at k1
  omega
 have n2:¬(a.den:Int)<0:=by omega
 rw [e k,if_neg n1,if_neg n2,← p1,← p2]
 rfl
theorem sqrt_0(h:(!isSq a.num)=true∨(!isSq a.den)=true):¬isSqR a=true:=by
 unfold isSqR
 rcases h with h|h<;>simp at h<;>rw [h]<;>simp
end
theorem exI_lim(a b c:Rat):-1≤exI a b c∧exI a b c≤1:=by
 unfold exI
 have h1:=sgnR_lim a
 have h2:=one_mul_lim (sgnR_lim b) (sgnR_lim c)
 have h3:=one_mul_lim (sgnR_lim a) (cmpR_lim (a*a) (b*b*c))
 repeat' split
 all_goals first|exact h1|exact h2|exact h3
section
variable {a b c:Rat}
end
section
variable {ax bx ay bb c X Y Q:Rat}
end
end Go.Sw
namespace Go.Sw
open Go
set_option linter.unusedVariables false
end Go.Sw
namespace Go.Sw
open Go
set_option linter.unusedVariables false
section
variable (a b c d e f:Rat)
end
end Go.Sw
namespace Go.Sw
open Go
set_option linter.unusedVariables false
section
variable {a b c d e f:Rat}
end
end Go.Sw
namespace Go.Sw
open Go
set_option linter.unusedVariables false
end Go.Sw
namespace Go.Sw
open Go Go.RowKit
set_option linter.unusedVariables false
section
variable {P:Program} {ρ:Operand→Value} {w:World} {d:Option Tmp} {ty:TypeId} {pos:String} {af:Array Edge} {gd:Option (Nat × Bool)}
end
section
variable {P:Program} {ρ:Operand→Value} {w:World} {d:Option Tmp} {ty:TypeId} {pos:String} {af:Array Edge} {gd:Option (Nat × Bool)} {Q:Exit→Act→World→Prop} {l:List Oper}
end
theorem wp_split{P:Program}{ops:Array Oper}{Q:Exit→Act→World→Prop}{l:List Oper}{a:Act}{w:World}(n:Nat)(h:wpList P ops Q (l.take n++l.drop n) a w):wpList P ops Q l a w:=by
 rwa [List.take_append_drop] at h
theorem fin_res{P:Program}{fn:Func}{R:Ending→World→Prop}{a:Act}{w:World}{r:ResultVar}{u:Value}(hr:fn.results.toList=[r])(hd:a.defers=[])(h1:(resRun a.tmps r).run P w=.ok u w)(hR:R (.returned u) w):bodyPost P fn R .ret a w :=
 ⟨hd,u,by rw [run_results,Sem.run_bind,Array.mapM_eq_mapM_toList,hr];simp [h1],hR⟩
end Go.Sw
namespace Go.Sw
open Go Go.RowKit
set_option linter.unusedVariables false
section
variable {P:Program} [Wld P] {a:Act} {w:World}
variable [Kp] {N:Nat} {w0:World} {X0:List Nat} {S:List Bx} {M:MM} {e:Env} {b:Bxs}
theorem Sta.var(h:Sta N w0 X0 S M a w e b){t i:Nat}{cs:List Cell}(hx:ld t e=some (.ptr i 0))(hb:ld i b=some (.var cs)):∃g T us,a.tmps.getD t undef=.pointer (some ⟨g,0,none⟩)∧w.heap[g]?=some (.cells us T (0,0))∧RepL w (bl S++X0) us.toList cs:=by
 obtain ⟨m,g,hm,hv,hg,hxe⟩:=(h.env t _ hx).ptr_
 obtain ⟨m',hm',h1,h2,⟨g',h3⟩,h4⟩:=h.box i _ hb
 rw [hm] at hm'
 cases hm'
 have h8:=h.ms.st.box _ (h.ms.inS i m hm h2 g hg)
 exact ⟨g,m.T,_,hxe,h8.1,by simpa using h4⟩
theorem RepF.agg{B:Nat}{w:World}{X:List Nat}{u:Value}{cs:List Cell}(h:RepF B w X u (.agg cs)):∃us:List Value,u=.agg us.toArray∧RepL w X us cs:=by
 cases h.r with
 |d h=>cases h with
  |agg h=>exact ⟨_,rfl,h⟩
end
end Go.Sw
