/-
  Rules of the abstract run, plain laws, and what functions answer, for the law RepairEnds.
  Conditions: none.
-/
import Derived.Test.YtmniihkenijjpaaGreatDoorM11
import Derived.Maps.Own
import Derived.Maps.Views
set_option linter.all false
namespace Go.Proofs.YtmniihkenijjpaaGreatDoor
open Go Go.RowKit Go.Sw
set_option maxRecDepth 100000
set_option maxHeartbeats 8000000
instance aeC(n:Int):DenI Tryz.prog 202 [.int .i64 n] (True) (.bool false):=⟨λhp=>by
 refine aB Tryz.func202 rfl ?_
 all_goals (repeat' ((try (conv=>whnf));first
  |refine Ends.mk ?_))
 all_goals first
  |(refine bE ?_;simp)⟩
instance adY(m n:Int):DenI Tryz.prog 164 [.int .i64 m,.int .i64 n] (True) (.int .i64 (iJ m n)):=⟨λhp=>by
 refine aB Tryz.func164 rfl ?_
 all_goals (repeat' ((try (conv=>whnf));first
  |refine aI ?_
  |(with_reducible refine aT ?_)
  |(with_reducible refine au (λ_=>?_) (λ_=>?_))
  |refine Ends.mk ?_))
 all_goals first
  |(refine iE ?_;unfold iJ;(repeat' split)<;>omega)⟩
instance aea(a b:Rat):DenI Tryz.prog 124 [R a,R b] (rz a≤10000000∧rz b≤10000000) (.int .i64 (gG a b)):=⟨λhp=>by
 have i_a:RzB a 10000000:=⟨hp.1⟩
 have i_b:RzB b 10000000:=⟨hp.2⟩
 all_goals refine aB Tryz.func124 rfl ?_
 all_goals (repeat' ((try (conv=>whnf));first
  |refine aI ?_
  |refine ak ?_ ?_
  |(with_reducible refine dn (λ_=>?_) (λ_=>?_))
  |refine Drw.mk (by kernel_rfl) ?_
  |refine Ends.mk ?_))
 all_goals (try refine Pr.mk ?_)
 all_goals (try simp only [gu] at *)
 all_goals first
  |with_reducible exact Y9 (by assumption)
  |rfl
  |((repeat' apply And.intro)<;>first|assumption|exact uF (by omega)|exact xA (by omega)|exact Int.mul_ne_zero (aG _) (aG _))⟩
instance aeh(a b:Rat):DenC Tryz.prog 237 [R a,R b] (rz a≤10000000∧rz b≤10000000) (b=0) (.tup [ZR,.int .i64 6]) (.tup [R (a / b),.int .i64 0]):=⟨UU λhp q e1 e2=>by
 have i_a:RzB a 10000000:=⟨hp.1⟩
 have i_b:RzB b 10000000:=⟨hp.2⟩
 all_goals refine aB Tryz.func237 rfl ?_
 all_goals (repeat' ((try (conv=>whnf));first
  |refine aI ?_
  |refine ak ?_ ?_
  |(with_reducible refine au (λ_=>?_) (λ_=>?_))
  |refine Drw.mk (by kernel_rfl) ?_
  |refine Ends.mk ?_))
 all_goals (try refine Pr.mk ?_)
 all_goals (try simp only [gu] at *)
 all_goals first
  |(rw [e1 (by assumption)];rfl)
  |with_reducible exact aas (by assumption) e2
  |(refine ⟨Oe (by assumption), ?_, ?_⟩<;>exact xA (by omega))
  |((repeat' apply And.intro)<;>first|assumption|exact uF (by omega)|exact xA (by omega)|exact Int.mul_ne_zero (aG _) (aG _))⟩
instance acX(n d:Int):DenC Tryz.prog 253 [Z n,Z d] (sz n≤500000000∧sz d≤500000000) (d=0) (.tup [ZR,.int .i64 6]) (.tup [R ((n:Rat) / d),.int .i64 0]):=⟨UU λhp q e1 e2=>by
 have i_n:SzB n 500000000:=⟨hp.1⟩
 have i_d:SzB d 500000000:=⟨hp.2⟩
 all_goals refine aB Tryz.func253 rfl ?_
 all_goals (repeat' ((try (conv=>whnf));first
  |refine aI ?_
  |refine ak ?_ ?_
  |(with_reducible refine au (λ_=>?_) (λ_=>?_))
  |refine Ends.mk ?_))
 all_goals (try refine Pr.mk ?_)
 all_goals (try simp only [gu] at *)
 all_goals first
  |(rw [e1 (by assumption)];rfl)
  |(rw [e2 (by assumption)];rfl)
  |(refine ⟨by assumption, ?_, ?_⟩<;>exact xA (by omega))⟩
instance acS(n d:Int):DenI Tryz.prog 226 [.int .i64 n,.int .i64 d] ((-9223372036854775808≤n∧n≤9223372036854775807)∧-9223372036854775808≤d∧d≤9223372036854775807) (R ((n:Rat) / d)):=⟨λhp=>by
 refine aB Tryz.func226 rfl ?_
 all_goals (repeat' ((try (conv=>whnf));first
  |refine ak ?_ ?_
  |(with_reducible refine au (λ_=>?_) (λ_=>?_))
  |refine Ends.mk ?_))
 all_goals (try refine Pr.mk ?_)
 all_goals first
  |rfl
  |omega
  |(subst d;exact congrArg R (Xt n))
  |(have z1:=jf hp.1.1 hp.1.2;have z2:=jf hp.2.1 hp.2.2;omega)⟩
end Go.Proofs.YtmniihkenijjpaaGreatDoor
namespace Go.Sw
open Go
def hf(c p:Rat × Rat):Int:=if c.2<p.2∨(p.2=c.2∧c.1<p.1) then 0 else 1
def dU(c p q:Rat × Rat):Int:=if hf c p=hf c q then (if hf c p=0 then -(gG p.1 q.1) else gG p.1 q.1) else hf c p-hf c q
def Gz(c f p:Rat × Rat):Int:=if dU c p f=0 then 0 else if dU c p f > 0 then 1 else 2
def zC(c f p q:Rat × Rat):Int:=if Gz c f p=Gz c f q then iK (dU c p q) else iK (Gz c f p-Gz c f q)
theorem zF(c p:Rat × Rat):hf c p=0∨hf c p=1:=by unfold hf;split<;>simp
end Go.Sw
namespace Go.Sw
open Go
def jy(a b c:Rat × Rat):Rat:=(b.1-a.1)*(c.2-a.2)-(b.2-a.2)*(c.1-a.1)
theorem Y4{x y:Rat}(hy:0≤y)(h:x*x<y*y):x<y:=by
 by_cases g:x<y
 ·exact g
 ·exfalso;have h1:0≤x-y:=by grind
  have h2:0≤x+y:=by grind
  have h3:=Rat.mul_nonneg h1 h2
  grind
theorem conc{q u1 v1 u2 v2 u3 v3:Rat}(e1:u1*u1+v1*v1=q)(e2:u2*u2+v2*v2=q)(e3:u3*u3+v3*v3=q)(h12:u2<u1)(h23:u3<u2)(p2:0≤v2):
 (u2-u3)*v1+(u1-u2)*v3<v2*(u1-u3):=by
 have hL:0<u1-u3:=by grind
 have ha:0<u2-u3:=by grind
 have hb:0<u1-u2:=by grind
 apply Y4 (Rat.mul_nonneg p2 (by grind));have h1:=Rat.mul_pos ha hb;have h2:=Rat.mul_pos h1 (Rat.mul_pos hL hL)
 have h3:0≤(v1-v3)*(v1-v3):=by
  by_cases g:0≤v1-v3
  ·exact Rat.mul_nonneg g g
  ·have:=Rat.mul_nonneg (show 0≤v3-v1 by grind) (show 0≤v3-v1 by grind)
   grind
 have h4:=Rat.mul_nonneg (show 0≤(u2-u3)*(u1-u2) by grind) h3
 have key:v2*(u1-u3)*(v2*(u1-u3))-((u2-u3)*v1+(u1-u2)*v3)*((u2-u3)*v1+(u1-u2)*v3)=(u2-u3)*(u1-u2)*((u1-u3)*(u1-u3))+(u2-u3)*(u1-u2)*((v1-v3)*(v1-v3)):=by
  clear h12 h23 p2 hL ha hb h1 h2 h3 h4
  grind
 clear e1 e2 e3;generalize (u2-u3)*(u1-u2)*((u1-u3)*(u1-u3))=z1 at *;generalize (u2-u3)*(u1-u2)*((v1-v3)*(v1-v3))=z2 at *;generalize v2*(u1-u3)*(v2*(u1-u3))=z3 at *;generalize ((u2-u3)*v1+(u1-u2)*v3)*((u2-u3)*v1+(u1-u2)*v3)=z4 at *;clear h1 h3
 grind
section
variable {q u1 v1 u2 v2 u3 v3:Rat}
theorem ZA(e1:u1*u1+v1*v1=q)(e2:u2*u2+v2*v2=q)(e3:u3*u3+v3*v3=q)(h12:u2<u1)(h23:u3<u2)(p2:0≤v2):0<(u2-u1)*(v3-v1)-(v2-v1)*(u3-u1):=by
 have:=conc e1 e2 e3 h12 h23 p2
 grind
theorem ZB(e1:u1*u1+v1*v1=q)(e2:u2*u2+v2*v2=q)(e3:u3*u3+v3*v3=q)(h12:u2<u1)(p1:0≤v1)(p2:0≤v2)(p3:v3≤0)(z2:v2=0→0<u2)(z3:v3=0→u3<0):0<(u2-u1)*(v3-v1)-(v2-v1)*(u3-u1):=by
 have e3':u3*u3+(-v3)*(-v3)=q:=by grind
 have hb:0<u1-u2:=by grind
 have hv:0≤(u1-u2)*(-v3):=Rat.mul_nonneg (by grind) (by grind)
 by_cases c1:u3<u2
 ·have:=conc e1 e2 e3' h12 c1 p2;clear e1 e2 e3 e3'
  grind
 ·by_cases c2:u1<u3
  ·have:=conc e3' e1 e2 c2 h12 p1;clear e1 e2 e3 e3'
   grind
  ·have k1:0≤(u3-u2)*v1:=Rat.mul_nonneg (by grind) p1;have k2:0≤(u1-u3)*v2:=Rat.mul_nonneg (by grind) p2;have kD:(u2-u1)*(v3-v1)-(v2-v1)*(u3-u1)=(u3-u2)*v1+(u1-u3)*v2+(u1-u2)*(-v3):=by clear e1 e2 e3 e3';grind
   rw [kD]
   by_cases g:v3<0
   ·have:=Rat.mul_pos hb (show 0 < -v3 by grind);clear e1 e2 e3 e3' kD
    grind
   ·have g0:v3=0:=by grind
    have g1:=z3 g0
    have g2:0<v2:=by
     by_cases g3:v2=0
     ·have g4:=z2 g3;exfalso
      grind
     ·grind
    have g5:u3*u3=q:=by rw [← e3,g0];grind
    exfalso;have g6:0<v2*v2:=Rat.mul_pos g2 g2;have g7:u2*u2<u3*u3:=by rw [g5,← e2];grind
    have g8:0≤u3-u2:=by grind
    have g9:0≤-u3-u2:=by grind
    have g10:=Rat.mul_nonneg g8 g9;clear e1 e2 e3 e3' kD g5 g6
    grind
end
theorem H9{c p:Rat × Rat}(h:hf c p=0):0≤p.2-c.2∧(p.2-c.2=0→0<p.1-c.1):=by
 unfold hf at h;split at h
 ·rename_i g;rcases g with g|⟨g1,g2⟩<;>constructor<;>grind
 ·exact absurd h (by decide)
theorem Iq{c p:Rat × Rat}(h:hf c p=1)(hn:p.2=c.2→p.1≠c.1):p.2-c.2≤0∧(p.2-c.2=0→p.1-c.1<0):=by
 unfold hf at h;split at h
 ·exact absurd h (by decide)
 ·rename_i g;constructor<;>grind
theorem mP{a b:Rat}:(gG a b<0→a<b)∧(-(gG a b)<0→b<a):=by
 unfold gG;constructor<;>(intro h;grind)
theorem Ue{c p1 p2 p3:Rat × Rat}{q:Rat}(e1:(p1.1-c.1)*(p1.1-c.1)+(p1.2-c.2)*(p1.2-c.2)=q)(e2:(p2.1-c.1)*(p2.1-c.1)+(p2.2-c.2)*(p2.2-c.2)=q)(e3:(p3.1-c.1)*(p3.1-c.1)+(p3.2-c.2)*(p3.2-c.2)=q)
 (n1:p1.2=c.2→p1.1≠c.1) (n2:p2.2=c.2→p2.1≠c.1) (n3:p3.2=c.2→p3.1≠c.1) (o12:dU c p1 p2<0) (o23:dU c p2 p3<0):0<jy p1 p2 p3:=by
 have kD:jy p1 p2 p3=((p2.1-c.1)-(p1.1-c.1))*((p3.2-c.2)-(p1.2-c.2))-((p2.2-c.2)-(p1.2-c.2))*((p3.1-c.1)-(p1.1-c.1)):=by unfold jy;grind
 rw [kD];rcases zF c p1 with h1|h1<;>rcases zF c p2 with h2|h2<;>rcases zF c p3 with h3|h3<;>(unfold dU at o12 o23;rw [h1,h2] at o12;rw [h2,h3] at o23;simp only [if_true,if_false,Int.reduceEq,reduceIte] at o12 o23)
 ·have a:=mP.2 o12;have b:=mP.2 o23;exact ZA e1 e2 e3 (by grind) (by grind) (H9 h2).1
 ·have a:=mP.2 o12;exact ZB e1 e2 e3 (by grind) (H9 h1).1 (H9 h2).1 (Iq h3 n3).1 (H9 h2).2 (Iq h3 n3).2
 ·exact absurd o23 (by decide)
 ·have a:=mP.1 o23;obtain ⟨x1,x2⟩:=H9 h1;obtain ⟨y1,y2⟩:=Iq h2 n2;obtain ⟨z1,z2⟩:=Iq h3 n3;have:=ZB (q:=q) (u1:=-(p2.1-c.1)) (v1:=-(p2.2-c.2)) (u2:=-(p3.1-c.1)) (v2:=-(p3.2-c.2)) (u3:=-(p1.1-c.1)) (v3:=-(p1.2-c.2)) (by grind) (by grind) (by grind) (by grind) (by grind) (by grind) (by grind) (λh=>by have:=z2 (by grind);grind) (λh=>by have:=x2 (by grind);grind);clear e1 e2 e3
  grind
 ·exact absurd o12 (by decide)
 ·exact absurd o12 (by decide)
 ·exact absurd o23 (by decide)
 ·have a:=mP.1 o12;have b:=mP.1 o23;have:=ZA (q:=q) (u1:=-(p1.1-c.1)) (v1:=-(p1.2-c.2)) (u2:=-(p2.1-c.1)) (v2:=-(p2.2-c.2)) (u3:=-(p3.1-c.1)) (v3:=-(p3.2-c.2)) (by grind) (by grind) (by grind) (by grind) (by grind) (by have:=(Iq h2 n2).1;grind);clear e1 e2 e3
  grind
end Go.Sw
namespace Go.Sw
open Go
theorem iw(c p q:Rat × Rat):dU c p q = -dU c q p:=by
 rcases zF c p with hp|hp<;>rcases zF c q with hq|hq<;>(simp only [dU,hp,hq];unfold gG;grind)
theorem qA{c p r:Rat × Rat}{q:Rat}(e1:(p.1-c.1)*(p.1-c.1)+(p.2-c.2)*(p.2-c.2)=q)(e2:(r.1-c.1)*(r.1-c.1)+(r.2-c.2)*(r.2-c.2)=q)(n1:p.2=c.2→p.1≠c.1)(n2:r.2=c.2→r.1≠c.1)(h:dU c p r=0):p=r:=by
 have hx:p.1=r.1∧hf c p=hf c r:=by
  rcases zF c p with hp|hp<;>rcases zF c r with hr|hr<;>(simp only [dU,hp,hr] at h;unfold gG at h;grind)
 obtain ⟨h1,h2⟩:=hx;have hy:(p.2-c.2)*(p.2-c.2)=(r.2-c.2)*(r.2-c.2):=by rw [h1] at e1;grind
 have hz:(p.2-r.2)*((p.2-c.2)+(r.2-c.2))=0:=by grind
 have h3:p.2=r.2:=by
  rcases Rat.mul_eq_zero.1 hz with g|g
  ·grind
  ·rcases zF c p with hp|hp
   ·have a:=(H9 hp).1;have b:=(H9 (h2 ▸ hp)).1
    grind
   ·have a:=(Iq hp n1).1;have b:=(Iq (h2 ▸ hp) n2).1
    grind
 exact Prod.ext h1 h3
theorem KR{c f p r:Rat × Rat}{q:Rat}(e1:(f.1-c.1)*(f.1-c.1)+(f.2-c.2)*(f.2-c.2)=q)(e2:(p.1-c.1)*(p.1-c.1)+(p.2-c.2)*(p.2-c.2)=q)(e3:(r.1-c.1)*(r.1-c.1)+(r.2-c.2)*(r.2-c.2)=q)
 (n1:f.2=c.2→f.1≠c.1) (n2:p.2=c.2→p.1≠c.1) (n3:r.2=c.2→r.1≠c.1) (h:0<jy f p r):zC c f p r≤0:=by
 have x1:jy f r p = -jy f p r:=by unfold jy;grind
 have x2:jy r p f = -jy f p r:=by unfold jy;grind
 have x3:jy p f r = -jy f p r:=by unfold jy;grind
 have d1:dU c p f≠0:=λg=>by
  obtain rfl:=qA e2 e1 n2 n1 g;have:jy p p r=0:=by unfold jy;grind
  grind
 have d2:dU c r f≠0:=λg=>by
  obtain rfl:=qA e3 e1 n3 n1 g;have:jy r p r=0:=by unfold jy;grind
  grind
 have a1:=iw c p f;have a2:=iw c r f;have a3:=iw c p r;have l1:dU c f r<0→dU c r p<0→False:=λg1 g2=>by have:=Ue e1 e3 e2 n1 n3 n2 g1 g2;grind
 have l2:dU c r p<0→dU c p f<0→False:=λg1 g2=>by have:=Ue e3 e2 e1 n3 n2 n1 g1 g2;grind
 have l3:dU c p f<0→dU c f r<0→False:=λg1 g2=>by have:=Ue e2 e1 e3 n2 n1 n3 g1 g2;grind
 clear e1 e2 e3 n1 n2 n3 x1 x2 x3 h;unfold zC Gz iK;generalize dU c p f=A at *;generalize dU c r f=B at *;generalize dU c p r=C at *;generalize dU c f r=B' at *;generalize dU c f p=A' at *;generalize dU c r p=C' at *
 (repeat' split)<;>first|omega|(exfalso;by_cases g1:B'<0<;>by_cases g2:C'<0<;>by_cases g3:A<0<;>simp_all<;>omega)
theorem Zf{c p:Rat × Rat}{q:Rat}(hq:0<q)(e:(p.1-c.1)*(p.1-c.1)+(p.2-c.2)*(p.2-c.2)=q):p.2=c.2→p.1≠c.1:=λh1 h2=>by
 rw [h1,h2] at e;grind
end Go.Sw
namespace Go.Sw
open Go
def cD(a b c d e f:Rat):Rat:=(c-a)*(f-b)-(d-b)*(e-a)
def cU(a b c d e f:Rat):Rat:=((c-a)*(c-a)+(d-b)*(d-b))*(f-b)-((e-a)*(e-a)+(f-b)*(f-b))*(d-b)
def cV(a b c d e f:Rat):Rat:=((e-a)*(e-a)+(f-b)*(f-b))*(c-a)-((c-a)*(c-a)+(d-b)*(d-b))*(e-a)
section
variable {a b c d e f:Rat}
theorem BA{x:Rat}(h:x≠0):x+x≠0:=by grind
theorem V9{u v:Rat}(h:¬(u=0∧v=0)):0<u*u+v*v:=by
 have h1:=wG u;have h2:=wG v
 have:u*u+v*v≠0:=λhh=>by
  have a1:u*u=0:=by grind
  have a2:v*v=0:=by grind
  exact h ⟨by rcases Rat.mul_eq_zero.1 a1 with h|h<;>exact h,by rcases Rat.mul_eq_zero.1 a2 with h|h<;>exact h⟩
 grind
theorem YU(h:¬cD a b c d e f=0):0<cU a b c d e f / (cD a b c d e f+cD a b c d e f)*(cU a b c d e f / (cD a b c d e f+cD a b c d e f))+cV a b c d e f / (cD a b c d e f+cD a b c d e f)*(cV a b c d e f / (cD a b c d e f+cD a b c d e f)):=by
 have h2:=BA h;refine V9 λhh=>?_
 have u0:cU a b c d e f=0:=by have:=hh.1;grind
 have v0:cV a b c d e f=0:=by have:=hh.2;grind
 have e1:cU a b c d e f*(c-a)+cV a b c d e f*(d-b)=((c-a)*(c-a)+(d-b)*(d-b))*cD a b c d e f:=by unfold cU cV cD;grind
 rw [u0,v0] at e1
 have e2:(c-a)*(c-a)+(d-b)*(d-b)=0:=by
  rcases Rat.mul_eq_zero.1 (show ((c-a)*(c-a)+(d-b)*(d-b))*cD a b c d e f=0 by rw [← e1];grind) with h'|h'
  ·exact h'
  ·exact absurd h' h
 refine h ?_
 have h3:c-a=0∧d-b=0:=by
  refine Decidable.byContradiction λhn=>?_
  have:=V9 hn;grind
 unfold cD;rw [h3.1,h3.2];grind
theorem X5(h:¬cD a b c d e f=0){u v:Rat}(hu:u=cU a b c d e f / (cD a b c d e f+cD a b c d e f))(hv:v=cV a b c d e f / (cD a b c d e f+cD a b c d e f)):
 (c-(a+u))*(c-(a+u))+(d-(b+v))*(d-(b+v))=u*u+v*v:=by
 have h2:=BA h;have e1:(c-a)*cU a b c d e f+(d-b)*cV a b c d e f=((c-a)*(c-a)+(d-b)*(d-b))*cD a b c d e f:=by unfold cU cV cD;grind
 have e2:(c-a)*u+(d-b)*v=((c-a)*(c-a)+(d-b)*(d-b)) / 2:=by
  rw [hu,hv];generalize cD a b c d e f=D at *;generalize cU a b c d e f=U at *;generalize cV a b c d e f=V at *
  grind
 grind
theorem Xe(h:¬cD a b c d e f=0){u v:Rat}(hu:u=cU a b c d e f / (cD a b c d e f+cD a b c d e f))(hv:v=cV a b c d e f / (cD a b c d e f+cD a b c d e f)):
 (e-(a+u))*(e-(a+u))+(f-(b+v))*(f-(b+v))=u*u+v*v:=by
 have h2:=BA h;have e1:(e-a)*cU a b c d e f+(f-b)*cV a b c d e f=((e-a)*(e-a)+(f-b)*(f-b))*cD a b c d e f:=by unfold cU cV cD;grind
 have e2:(e-a)*u+(f-b)*v=((e-a)*(e-a)+(f-b)*(f-b)) / 2:=by
  rw [hu,hv];generalize cD a b c d e f=D at *;generalize cU a b c d e f=U at *;generalize cV a b c d e f=V at *
  grind
 grind
theorem Y1(h:¬cD a b c d e f=0){u v:Rat}(hu:u=cU a b c d e f / (cD a b c d e f+cD a b c d e f))(hv:v=cV a b c d e f / (cD a b c d e f+cD a b c d e f)):
 (a-(a+u))*(a-(a+u))+(b-(b+v))*(b-(b+v))=u*u+v*v:=by grind
end
end Go.Sw
namespace Go.Sw
open Go
abbrev P2:=Rat × Rat
structure Rq where
 a:Bool
 l:List Nat
 b:Bool
 m:List Nat
deriving DecidableEq
structure Ent where
 kind:Int
 layer:ByteArray
 pts:List P2
 rad:Rq
structure Chn where
 kind:Nat
 ent:Nat
 fin:Nat
 src:Option P2
 dst:Option P2
def P0:P2:=(0,0)
def aZ(e:Ent):List P2 :=
 match e.pts with
 |[a,b]=>if e.kind=1 then [a,b] else []
 |[a,_,b]=>if e.kind=2 then [a,b] else []
 |_=>[]
def jS(p q:P2):Rat:=(p.1-q.1)*(p.1-q.1)+(p.2-q.2)*(p.2-q.2)
def Aq(sq:Rat)(v:P2)(b:Option P2)(w:P2):Option P2 :=
 if jS v w≤sq then (match b with|none=>some w|some u=>if jS v w<jS v u then some w else b) else b
def tC(sq:Rat)(v:P2)(l:List P2):Option P2:=l.foldl (Aq sq v) none
abbrev dX:=List (ByteArray × P2)
def bF(sp:dX)(s:ByteArray):List P2:=(sp.filter λp=>p.1.toList == s.toList).map (·.2)
def bK(sq:Rat)(sp:dX)(s:ByteArray)(v:P2):dX × P2 :=
 match tC sq v (bF sp s) with
 |some u=>(sp,u)
 |none=>(sp++[(s,v)],v)
def jn(i k:Nat)(v w:P2):List Chn:=if v=w then [] else [⟨1,i,k,some v,some w⟩]
structure JL where
 sp:dX
 ws:List P2
 cs:List Chn
def joinL(sq:Rat)(s:ByteArray)(i:Nat):Nat→dX→List P2→JL
 |_,sp,[]=>⟨sp,[],[]⟩
 |k,sp,v :: r =>
  let a:=bK sq sp s v
  let b:=joinL sq s i (k+1) a.1 r
  ⟨b.sp,a.2 :: b.ws,jn i k v a.2++b.cs⟩
def fF(e:Ent)(l:List P2):Ent :=
 match l,e.pts with
 |[a,b],[_,_]=>{ e with pts:=[a,b] }
 |[a,b],[_,m,_]=>{ e with pts:=[a,m,b] }
 |_,_=>e
structure JA where
 sp:dX
 es:List Ent
 cs:List Chn
def dB(sq:Rat):Nat→dX→List Ent→JA
 |_,sp,[]=>⟨sp,[],[]⟩
 |i,sp,e :: r =>
  let a:=joinL sq e.layer i 0 sp (aZ e)
  let b:=dB sq (i+1) a.sp r
  ⟨b.sp,fF e a.ws :: b.es,a.cs++b.cs⟩
def zO(e:Ent):Bool:=match e.pts with
 |[a,b,c]=>decide (cD a.1 a.2 b.1 b.2 c.1 c.2=0)
 |_=>false
def jV(e:Ent):Nat :=
 match aZ e with
 |[a,b]=>if a=b then 2 else if e.kind=2∧zO e=true then 5 else 0
 |_=>if e.kind=2∧zO e=true then 5 else 0
def rD(l:List (Ent × Nat)):List (Ent × Nat):=l.filter λx=>jV x.1 == 0
def pF(l:List (Ent × Nat)):List Chn:=(l.filter λx=>!(jV x.1 == 0)).map λx=>⟨jV x.1,x.2,0,none,none⟩
def eqS(a b:ByteArray):Bool:=a.toList == b.toList
def SG(a b c p:P2):Bool :=
 decide (cD a.1 a.2 b.1 b.2 c.1 c.2≠0∧(cU a.1 a.2 b.1 b.2 c.1 c.2*(p.1-a.1)+cV a.1 a.2 b.1 b.2 c.1 c.2*(p.2-a.2)=cD a.1 a.2 b.1 b.2 c.1 c.2*((p.1-a.1)*(p.1-a.1)+(p.2-a.2)*(p.2-a.2))) ∧
  (p=a∨p=c∨0<jy a p c*jy a b c))
def Dy(a b c d:P2):Bool:=decide ((a=c∧b=d)∨(a=d∧b=c))
def gV(e f:Ent):Bool :=
 eqS e.layer f.layer && decide (e.kind=f.kind) &&
 match e.pts,f.pts with
 |[a],[b]=>decide (a=b) && decide (e.rad=f.rad)
 |[a,b],[c,d]=>Dy a b c d
 |[a,m,b],[c,n,d]=>Dy a b c d && (if zO e || zO f then zO e && zO f && decide (m=n) else SG c n d m && SG a m b n)
 |_,_=>false
def wW(l:List Ent):List (Ent × Bool):=l.foldl (λacc e=>acc++[(e,acc.any λp=>!p.2 && gV e p.1)]) []
def dW(l:List Ent):List Bool:=(wW l).map (·.2)
def metAt(l:List (Ent × Nat))(s:ByteArray)(i k:Nat)(v:P2)(j:Nat):Bool :=
 match l[j]? with
 |none=>false
 |some x=>eqS x.1.layer s && (match aZ x.1 with
  |[a,b]=>((j != i || 0 != k) && decide (v=a)) || ((j != i || 1 != k) && decide (v=b))
  |_=>false)
def zJ(l:List (Ent × Nat))(s:ByteArray)(i k:Nat)(v:P2):Bool:=(List.range l.length).any (metAt l s i k v)
def wQ(l:List (Ent × Nat))(s:ByteArray)(n i k:Nat)(v:P2):List Chn:=if zJ l s i k v=true then [] else [⟨4,n,k,some v,some v⟩]
def opn(l:List (Ent × Nat))(i:Nat):List Chn :=
 match l[i]? with
 |none=>[]
 |some x=>(match aZ x.1 with
  |[a,b]=>wQ l x.1.layer x.2 i 0 a++wQ l x.1.layer x.2 i 1 b
  |_=>[])
def Kt(l:List (Ent × Nat)):List Chn:=(List.range l.length).flatMap (opn l)
def y9(l:List (Ent × Nat)):List (Ent × Nat):=((l.zip (dW (l.map (·.1)))).filter λx=>!x.2).map (·.1)
def YK(l:List (Ent × Nat)):List Chn:=((l.zip (dW (l.map (·.1)))).filter λx=>x.2).map λx=>⟨3,x.1.2,0,none,none⟩
structure RP where
 es:List Ent
 cs:List Chn
def bT(sq:Rat)(es:List Ent):RP :=
 let a:=dB sq 0 [] es
 let nb:=a.es.zipIdx
 let k:=rD nb
 let l:=y9 k
 ⟨l.map (·.1),a.cs++pF nb++YK k++Kt l⟩
def zo(sq:Rat)(v:P2)(l:List P2):Option P2→Prop
 |none=>∀w∈l,sq<jS v w
 |some u=>u∈l∧jS v u≤sq∧∀w∈l,jS v u≤jS v w
theorem Ql{sq:Rat}{v:P2}{l:List P2}{b:Option P2}(h:zo sq v l b)(w:P2):zo sq v (l++[w]) (Aq sq v b w):=by
 unfold Aq;cases b with
 |none =>
  by_cases h1:jS v w≤sq
  ·rw [if_pos h1];refine ⟨by simp,h1,λx hx=>?_⟩;rcases List.mem_append.1 hx with hx|hx
   ·have:=h x hx;grind
   ·simp at hx;subst hx;exact Rat.le_refl
  ·rw [if_neg h1];intro x hx;rcases List.mem_append.1 hx with hx|hx
   ·exact h x hx
   ·simp at hx;subst hx;exact Rat.not_le.1 h1
 |some u =>
  obtain ⟨q1,q2,q3⟩:=h
  by_cases h1:jS v w≤sq
  ·rw [if_pos h1]
   by_cases h2:jS v w<jS v u
   ·simp only [h2,if_true];refine ⟨by simp,h1,λx hx=>?_⟩;rcases List.mem_append.1 hx with hx|hx
    ·have:=q3 x hx;grind
    ·simp at hx;subst hx;exact Rat.le_refl
   ·simp only [h2,if_false];refine ⟨by simp [q1],q2,λx hx=>?_⟩;rcases List.mem_append.1 hx with hx|hx
    ·exact q3 x hx
    ·simp at hx;subst hx;exact Rat.not_lt.1 h2
  ·rw [if_neg h1];refine ⟨by simp [q1],q2,λx hx=>?_⟩;rcases List.mem_append.1 hx with hx|hx
   ·exact q3 x hx
   ·simp at hx;subst hx;grind
theorem Gp{sq:Rat}{v:P2}:∀(l:List P2) {pre:List P2} {b:Option P2},zo sq v pre b→zo sq v (pre++l) (l.foldl (Aq sq v) b)
 |[],pre,b,h=>by simpa using h
 |w :: r,pre,b,h=>by
  have:=Gp r (Ql h w);simpa using this
theorem Qy(sq:Rat)(v:P2)(l:List P2):zo sq v l (tC sq v l):=by
 have:=Gp (sq:=sq) (v:=v) l (pre:=[]) (b:=none) (λw hw=>by simp at hw);unfold tC;simpa using this
theorem oI(sp:dX)(t s:ByteArray)(v:P2):bF (sp++[(t,v)]) s=bF sp s++(if eqS t s=true then [v] else []):=by
 unfold bF eqS;rw [List.filter_append,List.map_append];congr 1
 by_cases h:(t.toList == s.toList)=true
 ·simp [h]
 ·simp [h]
theorem Gs(s:ByteArray):eqS s s=true:=by unfold eqS;simp
def SubS(sp sp':dX):Prop:=∀s w,w∈bF sp s→w∈bF sp' s
theorem SubS.refl(sp:dX):SubS sp sp:=λ_ _ h=>h
theorem SubS.trans{a b c:dX}(h:SubS a b)(k:SubS b c):SubS a c:=λs w hw=>k s w (h s w hw)
theorem pG(sq:Rat)(sp:dX)(s:ByteArray)(v:P2):((bK sq sp s v).1=sp∧(bK sq sp s v).2∈bF sp s∧jS v (bK sq sp s v).2≤sq) ∨
 ((bK sq sp s v).1=sp++[(s,v)]∧(bK sq sp s v).2=v∧∀w∈bF sp s,sq<jS v w):=by
 have h:=Qy sq v (bF sp s);unfold bK;cases hn:tC sq v (bF sp s) with
 |none=>rw [hn] at h;exact .inr ⟨rfl,rfl,h⟩
 |some u=>rw [hn] at h;exact .inl ⟨rfl,h.1,h.2.1⟩
theorem SubS.snoc(sp:dX)(t:ByteArray)(v:P2):SubS sp (sp++[(t,v)]):=λs w hw=>by rw [oI];exact List.mem_append_left _ hw
theorem Nb(sq:Rat)(sp:dX)(s:ByteArray)(v:P2):SubS sp (bK sq sp s v).1:=by
 rcases pG sq sp s v with ⟨h,_⟩|⟨h,_⟩<;>rw [h]
 ·exact SubS.refl sp
 ·exact SubS.snoc sp s v
theorem AX(sq:Rat)(sp:dX)(s:ByteArray)(v:P2):(bK sq sp s v).2∈bF (bK sq sp s v).1 s:=by
 rcases pG sq sp s v with ⟨h,h1,_⟩|⟨h,h1,_⟩<;>rw [h]
 ·exact h1
 ·rw [h1,oI,if_pos (Gs s)];simp
structure JLok (sq:Rat) (s:ByteArray) (i k:Nat) (sp:dX) (l:List P2) (r:JL):Prop where
 len:r.ws.length=l.length
 sub:SubS sp r.sp
 mem:∀w∈r.ws,w∈bF r.sp s
 cs:∀c∈r.cs,c.kind=1∧c.ent=i∧∃j v w,c.fin=k+j∧l[j]?=some v∧r.ws[j]?=some w∧c.src=some v∧c.dst=some w∧v≠w∧jS v w≤sq
theorem Gg(sq:Rat)(s:ByteArray)(i:Nat):∀(k:Nat) (sp:dX) (l:List P2),JLok sq s i k sp l (joinL sq s i k sp l)
 |k,sp,[]=>⟨rfl,SubS.refl _,λw h=>by simp [joinL] at h,λc h=>by simp [joinL] at h⟩
 |k,sp,v :: r=>by
  obtain ⟨h1,h2,h3,h4⟩:=Gg sq s i (k+1) (bK sq sp s v).1 r;refine ⟨by simp [joinL,h1],(Nb sq sp s v).trans h2,λw hw=>?_,λc hc=>?_⟩
  ·rcases List.mem_cons.1 hw with rfl|hw
   ·exact h2 s _ (AX sq sp s v)
   ·exact h3 w hw
  ·rcases List.mem_append.1 hc with hc|hc
   ·unfold jn at hc;split at hc
    ·simp at hc
    ·rename_i hne;simp at hc;subst hc;refine ⟨rfl,rfl,0,v,_,rfl,rfl,rfl,rfl,rfl,hne, ?_⟩;rcases pG sq sp s v with ⟨_,_,g⟩|⟨_,g,_⟩
     ·exact g
     ·exact absurd g.symm hne
   ·obtain ⟨q1,q2,j,a,b,q3,q4,q5,q6⟩:=h4 c hc;exact ⟨q1,q2,j+1,a,b,by omega,q4,q5,q6⟩
theorem fU(e:Ent):(aZ e=[]∧∀l,l.length=0→fF e l=e)∨(∃a b,e.kind=1∧e.pts=[a,b]∧aZ e=[a,b])∨(∃a m b,e.kind=2∧e.pts=[a,m,b]∧aZ e=[a,b]):=by
 obtain ⟨kd,ly,pts,rd⟩:=e
 match pts with
 |[]=>exact .inl ⟨rfl,λl hl=>by cases l with|nil=>rfl|cons=>simp at hl⟩
 |[a]=>exact .inl ⟨rfl,λl hl=>by cases l with|nil=>rfl|cons=>simp at hl⟩
 |[a,b] =>
  by_cases h:kd=1
  ·subst h;exact .inr (.inl ⟨a,b,rfl,rfl,rfl⟩)
  ·exact .inl ⟨by simp [aZ,h],λl hl=>by cases l with|nil=>rfl|cons=>simp at hl⟩
 |[a,m,b] =>
  by_cases h:kd=2
  ·subst h;exact .inr (.inr ⟨a,m,b,rfl,rfl,rfl⟩)
  ·exact .inl ⟨by simp [aZ,h],λl hl=>by cases l with|nil=>rfl|cons=>simp at hl⟩
 |_ :: _ :: _ :: _ :: _=>exact .inl ⟨rfl,λl hl=>by cases l with|nil=>rfl|cons=>simp at hl⟩
theorem yP{e:Ent}{l:List P2}(h:l.length=(aZ e).length):aZ (fF e l)=l∧(fF e l).layer=e.layer∧(fF e l).kind=e.kind∧(fF e l).pts.length=e.pts.length∧(fF e l).rad=e.rad:=by
 obtain ⟨kd,ly,pts,rd⟩:=e;rcases fU ⟨kd,ly,pts,rd⟩ with ⟨h1,h2⟩|⟨a,b,h1,h2,h3⟩|⟨a,m,b,h1,h2,h3⟩
 ·rw [h1] at h;rw [h2 l h,h1];exact ⟨(List.eq_nil_of_length_eq_zero h).symm,rfl,rfl,rfl,rfl⟩
 ·simp only at h1 h2;subst h1 h2;rw [h3] at h
  match l,h with
  |[x,y],_=>exact ⟨rfl,rfl,rfl,rfl,rfl⟩
 ·simp only at h1 h2;subst h1 h2;rw [h3] at h
  match l,h with
  |[x,y],_=>exact ⟨rfl,rfl,rfl,rfl,rfl⟩
theorem Ig(e:Ent):fF e (aZ e)=e:=by
 obtain ⟨kd,ly,pts,rd⟩:=e;rcases fU ⟨kd,ly,pts,rd⟩ with ⟨h1,h2⟩|⟨a,b,h1,h2,h3⟩|⟨a,m,b,h1,h2,h3⟩
 ·exact h2 _ (by rw [h1];rfl)
 ·simp only at h1 h2;subst h1 h2;rfl
 ·simp only at h1 h2;subst h1 h2;rfl
structure JAok (sq:Rat) (i:Nat) (sp:dX) (l:List Ent) (r:JA):Prop where
 len:r.es.length=l.length
 sub:SubS sp r.sp
 ent:∀(j:Nat) e e',l[j]?=some e→r.es[j]?=some e'→∃ws,ws.length=(aZ e).length∧e'=fF e ws∧∀w∈ws,w∈bF r.sp e.layer
 cs:∀c∈r.cs,c.kind=1∧∃j e e' k v w,c.ent=i+j∧l[j]?=some e∧r.es[j]?=some e'∧c.fin=k∧(aZ e)[k]?=some v∧(aZ e')[k]?=some w∧c.src=some v∧c.dst=some w∧v≠w∧jS v w≤sq
theorem GI(sq:Rat):∀(i:Nat) (sp:dX) (l:List Ent),JAok sq i sp l (dB sq i sp l)
 |i,sp,[]=>⟨rfl,SubS.refl _,λj e e' h=>by simp at h,λc h=>by simp [dB] at h⟩
 |i,sp,e :: r=>by
  obtain ⟨a1,a2,a3,a4⟩:=Gg sq e.layer i 0 sp (aZ e);obtain ⟨h1,h2,h3,h4⟩:=GI sq (i+1) (joinL sq e.layer i 0 sp (aZ e)).sp r;refine ⟨by simp [dB,h1],a2.trans h2,λj x x' hx hx'=>?_,λc hc=>?_⟩
  ·cases j with
   |zero =>
    simp [dB] at hx hx';subst hx hx';exact ⟨_,a1,rfl,λw hw=>h2 _ _ (a3 w hw)⟩
   |succ j=>exact h3 j x x' (by simpa using hx) (by simpa [dB] using hx')
  ·rcases List.mem_append.1 hc with hc|hc
   ·obtain ⟨q1,q2,j,v,w,q3,q4,q5,q6,q7,q8⟩:=a4 c hc;refine ⟨q1,0,e,_,j,v,w,by omega,rfl,rfl,by omega,q4, ?_,q6,q7,q8⟩;rw [(yP a1).1];exact q5
   ·obtain ⟨q1,j,x,x',k,v,w,q2,q3,q4,q5⟩:=h4 c hc;exact ⟨q1,j+1,x,x',k,v,w,by omega,by simpa using q3,by simpa [dB] using q4,q5⟩
end Go.Sw
namespace Go.Sw
open Go Go.RowKit
section
variable {P:Program} [Wld P] [Kp] {τ:Tab} {N:Nat} {w0:World} {X0:List Nat} {e:Env} {b:aJ} {a:Act} {w:World}
theorem wp1{ops:Array Oper}{Q:Exit→Act→World→Prop}{o:Oper}{rest:List Oper}{u:Value}{w':World}(hg:o.guard=none)(hr:(execOp a.eval o).run P w=.ok (.value u) w')(k:wpList P ops Q rest (a.put o.dst u) w'):wpList P ops Q (o :: rest) a w :=
 wpList_plain hg λK hK=>by
  unfold Oper.wp;rw [hr];exact hK _ _ k
theorem Z4{ops:Array Oper}{Q:Exit→Act→World→Prop}{o:Oper}{rest:List Oper}{w':World}(hg:o.guard=none)(hr:(execOp a.eval o).run P w=.ok .skip w')(k:wpList P ops Q rest (a.put o.dst undef) w'):wpList P ops Q (o :: rest) a w :=
 wpList_plain hg λK hK=>by
  unfold Oper.wp;rw [hr];exact hK _ _ k
theorem St.ext0{S:List Bx}(h:St w0 w S):Ext w0 X0 w (bl S++X0):=⟨h.below.size,λk hk hx _=>⟨h.below.block k hk,λhm=>by
 rcases List.mem_append.1 hm with hm|hm
 ·obtain ⟨q,hq,rfl⟩:=List.mem_map.1 hm;have:=(h.box q hq).2;omega
 ·exact hx hm⟩⟩
theorem Conc.putD(h:Conc N w0 X0 e b a w){t:Nat}{u:Value}{v:AV}(ht:DL N t)(hd:RepD w0 X0 u v):Conc N w0 X0 ((t,v) :: e) b (a.put (some t) u) w:=by
 obtain ⟨S,M,h⟩:=h;refine ⟨S,M,h.ms,h.x0,by simp [Act.put,h.sz],⟨oZ h.df.1 ht,h.df.2⟩,λs x hx=>?_,h.box⟩
 by_cases hs:t=s
 ·subst hs;rw [aK] at hx;cases hx;rw [bV u h.sz ht.1];exact .d (hd.ext h.ms.st.ext0)
 ·rw [aY _ _ hs] at hx;rw [bn u hs];exact h.env s x hx
theorem Conc.putA(h:Conc N w0 X0 e b a w){t:Nat}{u:Value}(ht:DL N t):Conc N w0 X0 ((t,.any) :: e) b (a.put (some t) u) w:=by
 obtain ⟨S,M,h⟩:=h;refine ⟨S,M,h.ms,h.x0,by simp [Act.put,h.sz],⟨oZ h.df.1 ht,h.df.2⟩,λs x hx=>?_,h.box⟩
 by_cases hs:t=s
 ·subst hs;rw [aK] at hx;cases hx;exact .any
 ·rw [aY _ _ hs] at hx;rw [bn u hs];exact h.env s x hx
theorem Conc.frm(h:Conc N w0 X0 e b a w):Frm N a []:=by
 obtain ⟨S,M,h⟩:=h;exact ⟨h.sz,h.df.1.1,λt v h=>by simp [lk] at h⟩
theorem Conc.get(h:Conc N w0 X0 e b a w){t:Nat}{u:Value}(hx:ld t e=some (.c (.v u)))(hv:∀A n c,u ≠ .slice A n c):a.tmps.getD t undef=u:=by
 obtain ⟨S,M,h⟩:=h;exact (h.env t _ hx).v_
theorem Conc.var(h:Conc N w0 X0 e b a w){t i:Nat}{cs:List Cell}(hx:ld t e=some (.ptr i 0))(hb:ld i b=some (.var cs)):∃g T us,a.tmps.getD t undef=.pointer (some ⟨g,0,none⟩)∧w0.heap.size≤g∧w.heap[g]?=some (.cells us T (0,0))∧RepL w X0 us.toList cs:=by
 obtain ⟨S,M,h⟩:=h;obtain ⟨m,g,hm,hv,hg,hxe⟩:=(h.env t _ hx).ptr_;obtain ⟨m',hm',h1,h2,⟨g',h3⟩,h4⟩:=h.box i _ hb;rw [hm] at hm';cases hm';have h8:=h.ms.st.box _ (h.ms.inS i m hm h2 g hg);exact ⟨g,m.T,_,hxe,h8.2,h8.1,by simpa using h4.ext (Ext.drop λx hx=>List.mem_append_right _ hx)⟩
theorem Conc.sz(h:Conc N w0 X0 e b a w):a.tmps.size=N∧a.defers=[]∧Below w0.heap.size w0 w:=by
 obtain ⟨S,M,h⟩:=h;exact ⟨h.sz,h.df.1.1,h.ms.st.below⟩
theorem Conc.kp(h:Conc N w0 X0 e b a w){t:Nat}{u:Value}(ht:(t,u)∈Kp.l):a.tmps.getD t undef=u:=by
 obtain ⟨S,M,h⟩:=h;exact h.df.1.2 t u ht
end
theorem Conc.keep(K:List (Nat × Value)){k1:Kp}{N:Nat}{w0:World}{X0:List Nat}{e:Env}{b:aJ}{a:Act}{w:World}(h : @Conc k1 N w0 X0 e b a w)(hK:∀t u,(t,u)∈K→a.tmps.getD t undef=u):@Conc ⟨K,k1.h⟩ N w0 X0 e b a w:=by
 obtain ⟨S,M,h⟩:=h;exact ⟨S,M,@Sta.mk ⟨K,k1.h⟩ N w0 X0 S M a w e b h.ms h.x0 h.sz ⟨⟨h.df.1.1,λt u ht=>hK t u ht⟩,h.df.2⟩ h.env h.box⟩
theorem Conc.boxF{k1:Kp}{N:Nat}{w0:World}{X0:List Nat}{e:Env}{b:aJ}{a:Act}{w:World}{t:Nat}{T:TypeId}{us:List Value}{cs:List Cell}(h : @Conc k1 N w0 X0 e b a w)(hd:RepL w0 X0 us cs)(hz:∀g o,(g,o)∈k1.h→False)(ht : @DL k1 N t):
 @Conc ⟨(t,.pointer (some ⟨w.heap.size,0,none⟩)) :: k1.l,[(w.heap.size,.cells us.toArray T (0,0))]⟩ N w0 X0 ((t,.c (.p cs)) :: e) b (a.put (some t) (.pointer (some ⟨w.heap.size,0,none⟩))) (w.alloc (.cells us.toArray T)):=by
 obtain ⟨S,M,h⟩:=h;have hx:=Ext.alloc_ w (bl S++X0) (.cells us.toArray T);have hnew:(w.alloc (.cells us.toArray T)).heap[w.heap.size]?=some (.cells us.toArray T (0,0)):=heap_alloc_new w _;have hnX:w.heap.size ∉ bl S++X0:=λhm=>by have:=h.bnd _ hm;omega
 refine ⟨S,M,@Sta.mk ⟨(t,.pointer (some ⟨w.heap.size,0,none⟩)) :: k1.l,[(w.heap.size,.cells us.toArray T (0,0))]⟩ N w0 X0 S M _ _ _ b (h.ms.alloc_ _) h.x0 (by simp [Act.put,h.sz]) ⟨⟨h.df.1.1,λs x hs=>?_⟩,λg o hg=>?_⟩ (λs x hx'=>?_) (λi x hx'=>?_)⟩
 ·rcases List.mem_cons.1 hs with hs|hs
  ·cases hs;exact bV _ h.sz ht.1
  ·rw [bn _ (zY ht.2 hs)];exact h.df.1.2 s x hs
 ·have hg':(g,o)∈[(w.heap.size,Obj.cells us.toArray T (0,0))]:=hg;simp only [List.mem_singleton,Prod.mk.injEq] at hg';obtain ⟨rfl,rfl⟩:=hg';exact ⟨hnew,hnX,.row hnew⟩
 ·by_cases hs:t=s
  ·subst hs;rw [aK] at hx';cases hx';rw [bV _ h.sz ht.1];have hcl:=Cl.of_block hnew hnX us.length;rw [List.toList_toArray,List.take_length] at hcl;exact .d (.c (EL hcl ((hd.ext h.ms.st.ext0).ext hx)))
  ·rw [aY _ _ hs] at hx';rw [bn _ hs];exact (h.env s x hx').ext hx λi _ m hm=>⟨m,hm,Comp.refl m⟩
 ·obtain ⟨m,h1,h2⟩:=h.box i x hx';exact ⟨m,h1,h2.ext0 hx⟩
theorem Conc.kh{k1:Kp}{N:Nat}{w0:World}{X0:List Nat}{e:Env}{b:aJ}{a:Act}{w:World}(h : @Conc k1 N w0 X0 e b a w){g:Nat}{o:Obj}(hg:(g,o)∈k1.h):w.heap[g]?=some o:=by
 obtain ⟨S,M,h⟩:=h;exact (h.df.2 g o hg).1
end Go.Sw
namespace Go.Sw
open Go Go.RowKit
open Go.WideElems (rd rg pl)
def Rv(v:Value):Option (DataW Value × List MemPlace):=some (.held v,[])
def datum(P:Program)(kT:TypeId)(es:Array MapEntry):DataW Value:=.map ((es.toList.map (rg P kT Rv)).foldr DataW.insert [])
inductive SlotR (w:World) (X:List Nat) (T:TypeId) (s:Nat) (more:List Bx):Value→List (List Cell)→Option Nat→Prop where
 |no:SlotR w X T s more (.slice none 0 0) [] none
 |some {g cap:Nat} {es:List (List Cell)} {uss:List (List Value)} {rest:List Value} (hm:(g,T,(uss.flatten++rest).toArray)∈more) (hr:RepS w X s uss es) (hc:cap*s=(uss.flatten++rest).length) (hx:cap≤maxLen) (hn:es.length≤cap) (h0:0<es.length):SlotR w X T s more (.slice (some ⟨g,0,none⟩) es.length cap) es (some g)
structure JS where
 sq:List Cell
 f:ByteArray→List (List Cell)
 n:Nat
def Tm(P:Program)(kT T:TypeId)(s:Nat)(st:JS)(w:World)(X:List Nat)(us:List Value)(more:List Bx)(mo:Nat × Array MapEntry × Nat):Prop :=
 ∃us',us=.map (some mo.1) :: us'∧RepL w X us' st.sq∧Go.WideElems.Fit P kT Rv mo.2.1 mo.2.2∧mo.2.1.size≤st.n ∧
  ∃(val:ByteArray→Value) (og:ByteArray→Option Nat),(∀k,(datum P kT mo.2.1).atKey (.string k.data.toList) (DataW.held (Value.slice none 0 0))=DataW.held (val k))∧(∀k,SlotR w X T s more (val k) (st.f k) (og k))∧∀k1 k2 g,og k1=some g→og k2=some g→k1=k2
theorem SlotR.ext{w w':World}{X X':List Nat}{T:TypeId}{s:Nat}{more:List Bx}{v:Value}{es:List (List Cell)}{og:Option Nat}(h:SlotR w X T s more v es og)(e:Ext w X w' X'):SlotR w' X' T s more v es og:=by
 cases h with
 |no=>exact .no
 |some hm hr hc hx hn h0=>exact .some hm (hr.ext e) hc hx hn h0
def Cm(P:Program)(kT T:TypeId)(s:Nat)(st:JS):Gho where
 rep:=Tm P kT T s st
 ext:=by
  rintro w X w' X' us more mo ⟨us',h1,h2,h3,h4,val,og,h5,h6,h7⟩ e;exact ⟨us',h1,h2.ext e,h3,h4,val,og,h5,λk=>(h6 k).ext e,h7⟩
theorem aa9{P:Program}{mT kT sT:TypeId}{w:World}{es:Array MapEntry}{ck g0:Nat}{val:ByteArray→Value}(hkT:P.underlying kT=some .string)(hmT:P.underlying mT=some (.map kT sT))(hz:∀W:World,(zeroValue sT).run P W=.ok (.slice none 0 0) W)
 (hF:Go.WideElems.Fit P kT Rv es ck) (hb:w.heap[g0]?=some (.map es ck)) (hv:∀k,(datum P kT es).atKey (.string k.data.toList) (DataW.held (Value.slice none 0 0))=DataW.held (val k)) (k:ByteArray) (hk:k.size≤maxLen) :
 (Instr.lookup mT (.map (some g0)) (.string k) false).run P w=.ok (val k) w:=by
 have hkey:keyOf P kT (.string k)=some (.string k.data.toList):=by simp [keyOf,hkT,mapKey,hk]
 rcases Maps.fit_look false (Maps.string_keyed hkT) hmT (hz w) hb hF hkey with ⟨hr,_,hd⟩|⟨e0,y,_,_,hr,hy,hd,_⟩
 ·have h1:=hv k;have h2:=hd (DataW.held (Value.slice none 0 0));unfold datum at h1;rw [h2] at h1;simp only [DataW.held.injEq] at h1;rw [← h1];simpa using hr
 ·have h1:=hv k;have h2:=hd (DataW.held (Value.slice none 0 0));unfold datum at h1;rw [h2] at h1;simp only [Rv,Option.some.injEq] at hy;subst hy;simp only [DataW.held.injEq] at h1;rw [← h1];simpa using hr
theorem SlotR.data{w:World}{X X1:List Nat}{T:TypeId}{s:Nat}{more:List Bx}{v:Value}{es:List (List Cell)}{og:Option Nat}(h:SlotR w X T s more v es og)(hm:∀q:Bx,q∈more→w.heap[q.1]?=Option.some (Obj.cells q.2.2 q.2.1 (0,0)))(hX:∀x∈X1,x∈X∧x ∉ bl more):RepC w X1 v (.sl s es):=by
 cases h with
 |no=>exact .nil _ _ _
 |some hm' hr hc hx hn h0 =>
  rename_i g cap uss rest;have hh:=hm _ hm';have hcl:=Cl.of_block (X:=X1) hh (λhx=>(hX g hx).2 (List.mem_map.2 ⟨_,hm',rfl⟩)) uss.flatten.length;rw [List.toList_toArray,List.take_left' rfl] at hcl;exact (hr.ext (Ext.drop λx hx=>(hX x hx).1)).sl hcl hn (by unfold maxLen at hx;omega)
def JS.add(st:JS)(k:ByteArray)(c:List Cell):JS:=⟨st.sq,λx=>if x=k then st.f x++[c] else st.f x,st.n+1⟩
theorem abf{w w3:World}{more more':List Bx}{g':Nat}{T:TypeId}{cur:Array Value}{og:Option Nat}(hm':more'=(g',T,cur) :: more.filter λq=>!(decide (og=some q.1)))(hg:og=some g'∨w.heap.size≤g')(hog:∀g,og=some g→g∈bl more)(hl:∀q:Bx,q∈more→q.1<w.heap.size)
 (hn:w3.heap[g']?=some (Obj.cells cur T (0,0))) (hk:∀q:Bx,q∈more→og≠some q.1→w3.heap[q.1]?=some (Obj.cells q.2.2 q.2.1 (0,0))) (hnd:more.Pairwise λa b=>a.1≠b.1) :
 (∀q:Bx,q∈more'→(q.1∈bl more∨w.heap.size≤q.1)∧w3.heap[q.1]?=some (Obj.cells q.2.2 q.2.1 (0,0)))∧more'.Pairwise λa b=>a.1≠b.1:=by
 subst hm';refine ⟨λq hq=>?_,List.pairwise_cons.2 ⟨λq hq=>?_,hnd.filter _⟩⟩
 ·rcases List.mem_cons.1 hq with rfl|hq
  ·refine ⟨?_,hn⟩;rcases hg with h|h
   ·exact .inl (hog _ h)
   ·exact .inr h
  ·obtain ⟨h1,h2⟩:=List.mem_filter.1 hq;exact ⟨.inl (List.mem_map.2 ⟨q,h1,rfl⟩),hk q h1 (by simpa using h2)⟩
 ·obtain ⟨h1,h2⟩:=List.mem_filter.1 hq;have h2':og≠some q.1:=by simpa using h2
  intro e;simp only at e;rcases hg with h|h
  ·exact h2' (by rw [h,e])
  ·have:=hl q h1;omega
theorem OJ{P:Program}{kT:TypeId}{es es':Array MapEntry}{kl:Lit}{d:DataW Value}{n:Nat}(h:(es'.toList.map (rg P kT Rv)).foldr DataW.insert []=ChangeMaps.putKey kl d ((es.toList.map (rg P kT Rv)).foldr DataW.insert []))(hn:es.size≤n):es'.size≤n+1:=by
 have e1:es'.size=((es'.toList.map (rg P kT Rv)).foldr DataW.insert []).length:=by rw [length_sorted];simp
 rw [e1,h];unfold ChangeMaps.putKey;rw [length_insert];have e2:=List.length_filter_le (ChangeMaps.notKey kl) ((es.toList.map (rg P kT Rv)).foldr DataW.insert []);rw [length_sorted] at e2;simp at e2;omega
theorem adG{P:Program}{mT kT sT T:TypeId}{s:Nat}{st:JS}{w w1 w2:World}{X:List Nat}{us:List Value}{more:List Bx}{es:Array MapEntry}{ck g0:Nat}{us':List Value}{val:ByteArray→Value}{og:ByteArray→Option Nat}{k:ByteArray}{v':Value}{vs:List Value}{vC:List Cell}{uss:List (List Value)}
 (hkT:P.underlying kT=some .string) (hmT:P.underlying mT=some (.map kT sT)) (hs0:0<s)
 (hu:us=.map (some g0) :: us') (hus:RepL w X us' st.sq) (hF:Go.WideElems.Fit P kT Rv es ck) (hn:es.size≤st.n) (hroom:st.n<maxLen) (hv:∀k,(datum P kT es).atKey (.string k.data.toList) (DataW.held (Value.slice none 0 0))=DataW.held (val k)) (hsl:∀k,SlotR w X T s more (val k) (st.f k) (og k)) (hinj:∀k1 k2 g,og k1=some g→og k2=some g→k1=k2)
 (hX:∀q:Bx,q∈more→q.1∈X∧w.heap[q.1]?=some (Obj.cells q.2.2 q.2.1 (0,0))) (hnd:more.Pairwise λa b=>a.1≠b.1) (hmap:w.heap[g0]?=some (Obj.map es ck)) (hk:k.size≤maxLen)
 (hvs:RepL w X vs vC) (hvl:vs.length=s) (huss:RepS w X s uss (st.f k))
 (hb1:Below w.heap.size w w1) (hown:w2.ownsRow 0 T s v' ((st.f k).length+1) (uss.flatten++vs)) (hgr:w1.grownBy w2 (val k).ownBlock) (hob:v'.ownBlock=(val k).ownBlock∨v'.ownBlock=some w1.heap.size) (hgo:(val k).ownBlock=og k) :
 ∃w3 mo' more',(Instr.mapUpdate mT (.map (some g0)) (.string k) v').run P w2=.ok () w3∧mo'.1=g0∧w3.heap[g0]?=some (Obj.map mo'.2.1 mo'.2.2)∧(∀q:Bx,q∈more'→(q.1∈bl more∨w1.heap.size≤q.1)∧w3.heap[q.1]?=some (Obj.cells q.2.2 q.2.1 (0,0)))∧(more'.Pairwise λa b=>a.1≠b.1) ∧
  (w3.os=w.os∧w3.tape=w.tape∧w3.output=w.output∧w.heap.size≤w3.heap.size∧∀i,i<w.heap.size→i≠g0→i ∉ bl more→w3.heap[i]?=w.heap[i]?)∧(∀i,i<w1.heap.size→i≠g0→og k≠some i→w3.heap[i]?=w1.heap[i]?)∧Tm P kT T s (st.add k vC) w3 (bl more'++X) us more' mo':=by
 have hkey:keyOf P kT (.string k)=some (.string k.data.toList):=by simp [keyOf,hkT,mapKey,hk]
 have hg0:=lt_of_heap hmap;have hlt:∀q:Bx,q∈more→q.1<w.heap.size:=λq hq=>lt_of_heap (hX q hq).2
 have hne0:∀q:Bx,q∈more→q.1≠g0:=λq hq e=>by
  have:=(hX q hq).2;rw [e,hmap] at this;cases this
 have hogm:∀k g,og k=some g→g∈bl more∧g<w.heap.size∧g≠g0:=by
  intro k1 g1 h1;have h6:=hsl k1;rw [h1] at h6;generalize val k1=vx at h6;generalize st.f k1=fx at h6;cases h6 with
  |some hm hr hc hx hn h0=>exact ⟨List.mem_map.2 ⟨_,hm,rfl⟩,hlt _ hm,hne0 _ hm⟩
 have hb0:(val k).ownBlock≠some g0:=by rw [hgo];exact λe=>(hogm k g0 e).2.2 rfl
 have hmap2:w2.heap[g0]?=some (Obj.map es ck):=(hgr.block g0 (Nat.lt_of_lt_of_le hg0 hb1.size) (λe=>hb0 e.symm)).trans ((hb1.block g0 hg0).trans hmap);obtain ⟨es',ck',hrun,hF',hput,_⟩:=Maps.fit_store (R':=Rv) (Maps.string_keyed hkT) hmT hmap2 hF (Nat.lt_of_le_of_lt hn hroom) (λ_ _ _ _ hz=>hz) hkey (show Rv v'=some (DataW.held v',[]) from rfl);rcases hown.2 with ⟨_,h0⟩|⟨g',cap,cur,hv',hb',hg',hle,hmx,hcs,htk⟩
 ·omega
 have hg'2:og k=some g'∨g'=w1.heap.size:=by
  rw [hv'] at hob;rcases hob with h|h
  ·left;rw [← hgo,← h];rfl
  ·right;simpa [Value.ownBlock] using h
 have hg'0:g'≠g0:=λe=>by rw [e,hmap2] at hg';cases hg'
 let w3:=ChangeMaps.setBlock w2 g0 (.map es' ck')
 have hsame:w3.heap[g0]?=some (Obj.map es' ck'):=ChangeMaps.heap_setBlock_same hmap2 _;have hoth:∀i,i≠g0→w3.heap[i]?=w2.heap[i]?:=λi hi=>ChangeMaps.heap_setBlock_other hmap2 _ hi
 have h31:∀i,i<w1.heap.size→i≠g0→og k≠some i→w3.heap[i]?=w1.heap[i]?:=λi hi h1 h2=>(hoth i h1).trans (hgr.block i hi (λe=>h2 (by rw [← hgo,← e])))
 have h30:∀i,i<w.heap.size→i≠g0→og k≠some i→w3.heap[i]?=w.heap[i]?:=λi hi h1 h2=>(h31 i (Nat.lt_of_lt_of_le hi hb1.size) h1 h2).trans (hb1.block i hi)
 have hsz:w.heap.size≤w3.heap.size:=by
  have:w3.heap.size=w2.heap.size:=by simp [w3,ChangeMaps.setBlock]
  rw [this];exact Nat.le_trans hb1.size hgr.size
 obtain ⟨hM,hP⟩:=abf (w:=w1) (w3:=w3) (more:=more) (g':=g') (T:=T) (cur:=cur) (og:=og k) rfl (by
  rcases hg'2 with h|h
  ·exact .inl h
  ·right;rw [h];exact Nat.le_refl _) (λg h=>(hogm k g h).1) (λq hq=>Nat.lt_of_lt_of_le (hlt q hq) hb1.size) ((hoth g' hg'0).trans hg') (λq hq h=>(h30 q.1 (hlt q hq) (hne0 q hq) h).trans (hX q hq).2) hnd
 have hext:Ext w X w3 (bl ((g',T,cur) :: more.filter λq=>!(decide (og k=some q.1)))++X):=by
  refine ⟨hsz,λi hi hx hnm=>?_⟩;have hi0:i≠g0:=λe=>hnm _ _ (e ▸ hmap)
  have hik:og k≠some i:=λe=>by
   obtain ⟨q,hq,rfl⟩:=List.mem_map.1 (hogm k i e).1;exact hx (hX q hq).1
  refine ⟨h30 i hi hi0 hik,λhm=>?_⟩;rcases List.mem_append.1 hm with hm|hm
  ·obtain ⟨q,hq,rfl⟩:=List.mem_map.1 hm;rcases (hM q hq).1 with h|h
   ·obtain ⟨p,hp,hpe⟩:=List.mem_map.1 h;exact hx (hpe ▸ (hX p hp).1)
   ·have:=hb1.size;omega
  ·exact hx hm
 refine ⟨w3,(g0,es',ck'),_,hrun,rfl,hsame,hM,hP,⟨hgr.os.trans hb1.os,hgr.tape.trans hb1.tape,hgr.output.trans hb1.output,hsz,λi hi h1 h2=>h30 i hi h1 (λe=>h2 (hogm k i e).1)⟩,h31,us',hu,hus.ext hext,hF', ?_, ?_⟩
 ·exact OJ hput hn
 ·have hD:datum P kT es'=(datum P kT es).put (.string k.data.toList) (.held v'):=by unfold datum;rw [DataW.put_eq,hput]
  refine ⟨λx=>if x=k then v' else val x,λx=>if x=k then some g' else og x,λx=>?_,λx=>?_,λk1 k2 g1 h1 h2=>?_⟩
  ·show (datum P kT es').atKey _ _=_;rw [hD]
   by_cases hx:x=k
   ·subst hx;refine Eq.trans ?_ (congrArg DataW.held (if_pos rfl).symm);exact Maps.atKey_put_same (D:=datum P kT es) ⟨_,rfl⟩ (k:=.string x.data.toList) trivial _ _
   ·refine Eq.trans ?_ (congrArg DataW.held (if_neg hx).symm);rw [Maps.atKey_put_other (λe=>hx ?_)]
    ·exact hv x
    ·injection e with e
     have:x.data=k.data:=Array.ext' e;cases x;cases k;simp_all
  ·by_cases hx:x=k
   ·subst hx;simp only [if_true,JS.add];rw [hv']
    have hR:RepS w X s (uss++[vs]) (st.f x++[vC]):=huss.append ⟨rfl,λu hu=>by simp at hu;subst hu;exact hvl,λi a c h1 h2=>by
     cases i with
     |zero=>simp at h1 h2;subst h1 h2;exact hvs
     |succ i=>simp at h1⟩
    have hfl:cur=((uss++[vs]).flatten++cur.toList.drop (((st.f x).length+1)*s)).toArray:=by
     have e1:(uss++[vs]).flatten=uss.flatten++vs:=by simp
     rw [e1,← htk,List.take_append_drop]
    have hl:(st.f x++[vC]).length=(st.f x).length+1:=by simp
    rw [← hl];refine .some (uss:=uss++[vs]) (rest:=cur.toList.drop (((st.f x).length+1)*s)) ?_ (hR.ext hext) ?_ hmx (by rw [hl];exact hle) (by rw [hl];omega)
    ·rw [← hfl];simp
    ·have:((uss++[vs]).flatten++cur.toList.drop (((st.f x).length+1)*s)).length=cur.size:=by
      conv=>rhs;rw [hfl]
      simp
     rw [this,hcs]
   ·simp only [if_neg hx,JS.add];have h6:=hsl x;generalize hgx:og x=ox at h6;generalize hvx:val x=vx at h6;generalize hfx:st.f x=fx at h6;cases h6 with
    |no=>exact .no
    |some hm hr hc hx' hn' h0' =>
     refine .some (List.mem_cons_of_mem _ (List.mem_filter.2 ⟨hm, ?_⟩)) (hr.ext hext) hc hx' hn' h0';simp only [Bool.not_eq_true',decide_eq_false_iff_not];exact λe=>hx (hinj x k _ hgx e)
  ·replace h1:(if k1=k then some g' else og k1)=some g1:=h1;replace h2:(if k2=k then some g' else og k2)=some g1:=h2
   have key:∀x,x≠k→og x=some g'→False:=λx hx h=>by
    rcases hg'2 with h3|h3
    ·exact hx (hinj x k g' h h3)
    ·have:=(hogm x g' h).2.1;have:=hb1.size;omega
   by_cases e1:k1=k<;>by_cases e2:k2=k
   ·rw [e1,e2]
   ·rw [if_pos e1] at h1;rw [if_neg e2] at h2;cases h1;exact (key k2 e2 h2).elim
   ·rw [if_neg e1] at h1;rw [if_pos e2] at h2;cases h2;exact (key k1 e1 h1).elim
   ·rw [if_neg e1] at h1;rw [if_neg e2] at h2;exact hinj k1 k2 g1 h1 h2
end Go.Sw
namespace Go.Sw
open Go Go.RowKit
section
variable {P:Program} {ρ:Operand→Value} {w:World} {d:Option Tmp} {ty:TypeId} {pos:String} {af:Array Edge} {gd:Option (Nat × Bool)}
theorem JE{x:Operand}{ad:Addr}(hx:ρ x=.pointer (some ad)):(execOp ρ ⟨d,.nilCheck x,ty,pos,af,gd⟩).run P w=.ok (.value (.pointer (some ad))) w:=by
 simp [execOp,hx]
theorem Lu{t:TypeId}{x y:Operand}{g0:Nat}{k v:Value}(hx:ρ x=.map (some g0))(hy:ρ y=k)(h:(Instr.lookup t (.map (some g0)) k false).run P w=.ok v w):(execOp ρ ⟨d,.lookup t x y false,ty,pos,af,gd⟩).run P w=.ok (.value v) w:=by
 simp [execOp,hx,hy,h,Result.andThen]
theorem Dk{t:TypeId}{x y z:Operand}{g0:Nat}{k v:Value}{w':World}(hx:ρ x=.map (some g0))(hy:ρ y=k)(hz:ρ z=v)(h:(Instr.mapUpdate t (.map (some g0)) k v).run P w=.ok () w'):(execOp ρ ⟨d,.mapUpdate t x y z,ty,pos,af,gd⟩).run P w=.ok .skip w':=by
 simp [execOp,hx,hy,hz,h,Result.andThen]
theorem Me{t:TypeId}{x y:Operand}{u v r:Value}{w':World}(hx:ρ x=u)(hy:ρ y=v)(h:(Builtin.append_ #[t,t] ty #[u,v]).run P w=.ok r w'):(execOp ρ ⟨d,.call ⟨.builtin .append,#[x,y],#[t,t]⟩,ty,pos,af,gd⟩).run P w=.ok (.value r) w':=by
 have hu : #[x,y].map ρ = #[u,v]:=by simp [hx,hy]
 simp only [execOp,resolve,invoke,builtin,hu,Sem.run_bind,Sem.run_pure,Result.andThen_ok];rw [h];simp
theorem Hr{t:TypeId}:(execOp ρ ⟨d,.makeMap t none,ty,pos,af,gd⟩).run P w=.ok (.value (.map (some w.heap.size))) (w.alloc (.map #[] 0)):=by
 simp [execOp,run_makeMap]
theorem Ud{t e:TypeId}{by_:Nat}{z:Array Value}{x:Operand}{cs:Array Value}(ht:sliceOf P t=some (e,8))(he:Sw.elemOf P e=some (z,8,by_))(hz:z.size=8)(hx:ρ x=.agg cs)(hc:cs.size=8):
 (execOp ρ ⟨d,.buildSlice t 1 #[(0,x)],ty,pos,af,gd⟩).run P w=.ok (.value (.slice (some ⟨w.heap.size,0,none⟩) 1 1)) (w.alloc (.cells cs e)):=by
 have hfill:Instr.fill (λi=>some (i*8,8)) (madeCells z (1*8)) [(0,.agg cs)]=some cs:=by
  obtain ⟨l⟩:=cs
  match l,hc with
  |[a0,a1,a2,a3,a4,a5,a6,a7],_ =>
  obtain ⟨zl⟩:=z
  match zl,hz with
  |[z0,z1,z2,z3,z4,z5,z6,z7],_=>simp [Instr.fill,madeCells,Value.cells,show Array.range 8 = #[0,1,2,3,4,5,6,7] by decide]
 have hr:=CJ (P:=P) (w:=w) (n:=1) (parts:=#[(0,.agg cs)]) ht he (by omega) (by omega) hfill;simp only [execOp,Sem.run_bind];have:(#[(0,x)]:Array (Nat × Operand)).map (λp=>(p.1,ρ p.2)) = #[(0,.agg cs)]:=by simp [hx]
 rw [this,hr];simp
theorem H7{t:TypeId}{x y:Operand}{u:Value}{cs:Array Value}(hx:ρ x=u)(hu:u.cells = #[u])(hy:ρ y=.agg cs)(h:(Instr.build t #[(0,u),(1,.agg cs)]).run P w=.ok (.agg (#[u]++cs)) w):
 (execOp ρ ⟨d,.build t #[(0,x),(1,y)],ty,pos,af,gd⟩).run P w=.ok (.value (.agg (#[u]++cs))) w:=by
 simp only [execOp,Sem.run_bind];have:(#[(0,x),(1,y)]:Array (Nat × Operand)).map (λp=>(p.1,ρ p.2)) = #[(0,u),(1,.agg cs)]:=by simp [hx,hy]
 rw [this,h];simp
end
theorem SlotR.inv{w:World}{X:List Nat}{T:TypeId}{s:Nat}{more:List Bx}{v:Value}{es:List (List Cell)}{og:Option Nat}(h:SlotR w X T s more v es og)(h0:0<es.length):∃g cap uss rest,v=.slice (Option.some ⟨g,0,none⟩) es.length cap∧og=Option.some g∧((g,T,(List.flatten uss++rest).toArray):Bx)∈more∧RepS w X s uss es∧cap*s=(List.flatten uss++rest).length∧es.length≤cap:=by
 cases h with
 |no=>simp at h0
 |some hm hr hc hx hn h0=>exact ⟨_,_,_,_,rfl,rfl,hm,hr,hc,hn⟩
theorem SlotR.row{w:World}{X:List Nat}{T:TypeId}{s:Nat}{more:List Bx}{v:Value}{es:List (List Cell)}{og:Option Nat}(h:SlotR w X T s more v es og)(hm:∀q:Bx,q∈more→w.heap[q.1]?=Option.some (Obj.cells q.2.2 q.2.1 (0,0))):∃uss,RepS w X s uss es∧w.ownsRow 0 T s v es.length uss.flatten∧v.ownBlock=og:=by
 cases h with
 |no=>exact ⟨[],.nil _ _ _,⟨by simp,.inl ⟨rfl,rfl⟩⟩,rfl⟩
 |some hm' hr hc hx hn h0 =>
  rename_i g cap uss rest;refine ⟨uss,hr,⟨by rw [bU hr.sz,hr.len],.inr ⟨g,cap,_,rfl,Nat.zero_le _,hm _ hm',hn,hx,by simpa using hc.symm, ?_⟩⟩,rfl⟩;rw [List.toList_toArray];have:uss.flatten.length=es.length*s:=by rw [bU hr.sz,hr.len]
  rw [← this,List.take_left' rfl]
theorem BP{w w':World}{T:TypeId}{s n:Nat}{v:Value}{xs:List Value}(h:w.ownsRow 0 T s v n xs)(hk:∀i,i<w.heap.size→w'.heap[i]?=w.heap[i]?):w'.ownsRow 0 T s v n xs:=by
 refine ⟨h.1, ?_⟩;rcases h.2 with h|⟨g,cap,cur,h1,h2,h3,h4⟩
 ·exact .inl h
 ·exact .inr ⟨g,cap,cur,h1,h2,(hk g (lt_of_heap h3)).trans h3,h4⟩
section
variable {P:Program} {ρ:Operand→Value} {w:World} {d:Option Tmp} {ty:TypeId} {pos:String} {af:Array Edge} {gd:Option (Nat × Bool)} {Q:Exit→Act→World→Prop} {l:List Oper}
theorem Fe{t:TypeId}{x y:Operand}{p v:Value}{w':World}(hx:ρ x=p)(hy:ρ y=v)(h:(Instr.storeAt t p v).run P w=.ok () w'):(execOp ρ ⟨d,.store t x y,ty,pos,af,gd⟩).run P w=.ok .skip w':=by
 simp only [execOp,hx,hy,Sem.run_bind,h,Result.andThen_ok,Sem.run_pure]
theorem Kz{i e:Nat}{o:Oper}{a:Act}{w':World}{K:Act→World→Prop}{v:Value}(ho:l[i]?=some o)(hg:o.guard=none)(hd:o.dst=some e)(hr:(execOp a.eval o).run P w=.ok (.value v) w')(hK:K (a.put (some e) v) w'):wpOp P l.toArray Q i K a w:=by
 refine wop ho hg ?_;unfold Oper.wp;rw [hr];simp only [Oper.upon,hd];exact hK
theorem QX{i:Nat}{o:Oper}{a:Act}{w':World}{K:Act→World→Prop}(ho:l[i]?=some o)(hg:o.guard=none)(hd:o.dst=none)(hr:(execOp a.eval o).run P w=.ok .skip w')(hK:K (a.put none undef) w'):wpOp P l.toArray Q i K a w:=by
 refine wop ho hg ?_;unfold Oper.wp;rw [hr];simp only [Oper.upon,hd];exact hK
theorem xQ{us vs:Array Value}(h:us.size=vs.size):splice us 0 vs=vs:=by
 have:=pI us.toList vs.toList 0;simp only [Array.toArray_toList] at this;rw [this];have hd:List.drop vs.size us.toList=[]:=List.drop_eq_nil_of_le (by simp [h]);simp [hd]
end
theorem KO{P:Program}{fn:Func}{R:Ending→World→Prop}{a:Act}{w:World}{r:ResultVar}{u:Value}(hr:fn.results.toList=[r])(hd:a.defers=[])(h1:(dY a.tmps r).run P w=.ok u w)(hR:R (.returned u) w):bodyPost P fn R .ret a w :=
 ⟨hd,u,by rw [jd,Sem.run_bind,Array.mapM_eq_mapM_toList,hr];simp [h1],hR⟩
@[reducible] def aS(p:P2):List Cell:=[zs p.1.num,zl p.1.num,zs p.1.den,zl p.1.den,zs p.2.num,zl p.2.num,zs p.2.den,zl p.2.den]
@[reducible] def zD(q:Rat):List Cell:=[zs q.num,zl q.num,zs q.den,zl q.den]
def Fq(sq:Rat)(sp:dX)(n:Nat):JS:=⟨zD sq,λs=>(bF sp s).map aS,n⟩
theorem UK{a b:ByteArray}:eqS a b=true↔a=b:=by
 unfold eqS;constructor
 ·intro h;have:=eq_of_beq h;rw [ByteArray.toList_eq,ByteArray.toList_eq] at this;have h2:a.data=b.data:=Array.ext' this;cases a;cases b;simp_all
 ·rintro rfl;simp
theorem Tz(sq:Rat)(sp:dX)(n:Nat)(s:ByteArray)(v:P2):(Fq sq sp n).add s (aS v)=Fq sq (sp++[(s,v)]) (n+1):=by
 unfold Fq JS.add;congr 1
 funext x
 rw [oI]
 by_cases h:x=s
 ·subst h;rw [if_pos rfl,if_pos (Gs x)];simp
 ·rw [if_neg h,if_neg (λe=>h (UK.1 e).symm)];simp
def eX(sq:Rat)(v:P2)(l:List P2):Nat→Int
 |0=>-1
 |i+1=>if jS v (l.getD i P0)≤sq∧(eX sq v l i<0∨jS v (l.getD i P0)<jS v (l.getD (eX sq v l i).toNat P0)) then (i:Int) else eX sq v l i
theorem pY(sq:Rat)(v:P2)(l:List P2):∀i,i≤l.length→-1≤eX sq v l i∧eX sq v l i<i∧tC sq v (l.take i)=(if eX sq v l i<0 then none else some (l.getD (eX sq v l i).toNat P0))
 |0,_=>⟨by simp [eX],by simp [eX],by simp [eX,tC]⟩
 |i+1,hi=>by
  obtain ⟨h1,h2,h3⟩:=pY sq v l i (by omega);have hlt:i<l.length:=by omega
  have ht:l.take (i+1)=l.take i++[l.getD i P0]:=by
   rw [List.take_add_one];simp [List.getElem?_eq_getElem hlt,List.getD_eq_getElem?_getD]
  have hn:tC sq v (l.take (i+1))=Aq sq v (tC sq v (l.take i)) (l.getD i P0):=by
   rw [ht];unfold tC;rw [List.foldl_append];rfl
  rw [hn,h3,show eX sq v l (i+1)=if jS v (l.getD i P0)≤sq∧(eX sq v l i<0∨jS v (l.getD i P0)<jS v (l.getD (eX sq v l i).toNat P0)) then (i:Int) else eX sq v l i from rfl];unfold Aq
  by_cases q1:jS v (l.getD i P0)≤sq
  ·by_cases q2:eX sq v l i<0
   ·rw [if_pos ⟨q1,.inl q2⟩,if_pos q1,if_pos q2];refine ⟨by omega,by omega, ?_⟩;rw [if_neg (by omega)];simp
   ·rw [if_neg q2,if_pos q1]
    by_cases q3:jS v (l.getD i P0)<jS v (l.getD (eX sq v l i).toNat P0)
    ·rw [if_pos ⟨q1,.inr q3⟩];refine ⟨by omega,by omega, ?_⟩;simp only [q3,if_true];rw [if_neg (by omega)];simp
    ·rw [if_neg (λh=>by rcases h.2 with h|h;exact q2 h;exact q3 h)];refine ⟨by omega,by omega, ?_⟩;simp only [q3,if_false,q2]
  ·rw [if_neg (λh=>q1 h.1),if_neg q1];exact ⟨by omega,by omega,rfl⟩
end Go.Sw
namespace Go.Sw
open Go
@[reducible] def dD(e:Ent):List Cell:=[.v (.int .i64 e.kind),.v (.string e.layer),.sl 8 (e.pts.map aS),.v (.bool e.rad.a),aX e.rad.l,.v (.bool e.rad.b),aX e.rad.m]
def bJ(p:P2):Prop:=rz p.1≤12∧rz p.2≤12
def E0:Ent:=⟨0,⟨#[]⟩,[],⟨false,[],false,[]⟩⟩
theorem Yy{e:Ent}(h:e.kind=1∧e.pts.length=2∨e.kind=2∧e.pts.length=3):aZ e=[e.pts.getD 0 P0,e.pts.getD (e.pts.length-1) P0]:=by
 obtain ⟨kd,ly,pts,rd⟩:=e;simp only at h ⊢;rcases h with ⟨rfl,h⟩|⟨rfl,h⟩
 ·match pts,h with
  |[a,b],_=>rfl
 ·match pts,h with
  |[a,m,b],_=>rfl
theorem YN{e:Ent}(h:¬(e.kind=1∧e.pts.length=2∨e.kind=2∧e.pts.length=3)):aZ e=[]:=by
 rcases fU e with ⟨h1,_⟩|⟨a,b,h1,h2,_⟩|⟨a,m,b,h1,h2,_⟩
 ·exact h1
 ·exact absurd (.inl ⟨h1,by rw [h2];rfl⟩) h
 ·exact absurd (.inr ⟨h1,by rw [h2];rfl⟩) h
@[reducible] def Aa(e:Ent):AV:=.tup [.c (.sl (if aZ e=[] then 0 else 8) ((aZ e).map aS)),.bool (decide (aZ e≠[]))]
theorem RY{e:Ent}{i j:Nat}(h:e.kind=1∧e.pts.length=2∨e.kind=2∧e.pts.length=3)(hi:i=0)(hj:j=e.pts.length-1):aA [AV.c (Cell.sl 8 [aS (e.pts.getD i P0),aS (e.pts.getD j P0)]),AV.bool true]=Aa e:=by
 subst hi hj;unfold Aa;rw [Yy h];rfl
theorem Vq{e:Ent}(h:¬(e.kind=1∧e.pts.length=2∨e.kind=2∧e.pts.length=3)):aA [AV.c (Cell.sl 0 []),AV.bool false]=Aa e:=by
 unfold Aa;rw [YN h];rfl
theorem Gu(e:Ent):((aZ e).length=2∧(e.pts.length=2∨e.pts.length=3))∨(aZ e).length=0:=by
 rcases fU e with ⟨h1,_⟩|⟨a,b,_,h2,h3⟩|⟨a,m,b,_,h2,h3⟩
 ·right;rw [h1];rfl
 ·left;rw [h2,h3];simp
 ·left;rw [h2,h3];simp
theorem Nq{e:Ent}{l:List P2}{j:Nat}(h2:l.length=2)(hl:l.length=(aZ e).length)(hj:j=e.pts.length-1):aA [AV.agg [.v (.int .i64 e.kind),.v (.string e.layer),.sl 8 (((e.pts.map aS).set 0 (aS (l.getD 0 P0))).set j (aS (l.getD 1 P0))),.v (.bool e.rad.a),aX e.rad.l,.v (.bool e.rad.b),aX e.rad.m]]=.agg (dD (fF e l)):=by
 subst hj;obtain ⟨kd,ly,pts,rd⟩:=e
 match l,h2 with
 |[x,y],_ =>
 rcases fU ⟨kd,ly,pts,rd⟩ with ⟨h1,_⟩|⟨a,b,_,h2,h3⟩|⟨a,m,b,_,h2,h3⟩
 ·rw [h1] at hl;cases hl
 ·simp only at h2;subst h2;rfl
 ·simp only at h2;subst h2;rfl
theorem RX{e:Ent}{l:List P2}(h2:¬(l.length:Int)=2)(hl:l.length=(aZ e).length):aA [AV.agg (dD e)]=.agg (dD (fF e l)):=by
 rcases fU e with ⟨h1,h⟩|⟨a,b,_,_,h3⟩|⟨a,m,b,_,_,h3⟩
 ·rw [h l (by rw [hl,h1];rfl)];rfl
 ·rw [h3] at hl;simp at hl;omega
 ·rw [h3] at hl;simp at hl;omega
theorem ET{M:Type}(d:M){f:M→List Cell}{l:List M}{y:M}{j:Int}{k:List Cell→Prop}(n:Nat)(hp:Pr (0≤j∧j<l.length))(hk:k (f ((l.set n y).getD j.toNat d))):Elem ((l.map f).set n (f y)) j k:=by
 rw [← List.map_set];exact aP d ⟨by rw [List.length_set];exact hp.p⟩ hk
@[reducible] def ZVC:List Cell:=[.v (.bool false),.sl 1 [],.v (.bool false),.sl 1 [],.v (.bool false),.sl 1 [],.v (.bool false),.sl 1 []]
@[reducible] def ovC(p:Option P2):List Cell:=match p with|some v=>aS v|none=>ZVC
@[reducible] def vJ(c:Chn):List Cell:=[.v (.int .i64 (c.kind:Nat)),.v (.int .i64 (c.ent:Nat)),.v (.int .i64 (c.fin:Nat))]++ovC c.src++ovC c.dst
@[reducible] def jm(x:Ent × Nat):List Cell:=dD x.1++[.v (.int .i64 (x.2:Nat))]
theorem yV(sq:Rat)(e:Ent):∀(l:List Ent) (i:Nat) (sp:dX),dB sq i sp (l++[e])=⟨(joinL sq e.layer (i+l.length) 0 (dB sq i sp l).sp (aZ e)).sp,(dB sq i sp l).es++[fF e (joinL sq e.layer (i+l.length) 0 (dB sq i sp l).sp (aZ e)).ws],(dB sq i sp l).cs++(joinL sq e.layer (i+l.length) 0 (dB sq i sp l).sp (aZ e)).cs⟩
 |[],i,sp=>by simp [dB]
 |x :: r,i,sp=>by
  have ih:=yV sq e r (i+1) (joinL sq x.layer i 0 sp (aZ x)).sp;simp only [List.cons_append,dB,ih,List.length_cons];simp [show i+1+r.length=i+(r.length+1) by omega]
theorem Ae(sq:Rat):∀(l:List Ent) (i:Nat) (sp:dX),(dB sq i sp l).es.length=l.length
 |[],i,sp=>rfl
 |x :: r,i,sp=>by simp [dB,Ae sq r]
def jA(sq:Rat)(es:List Ent)(x:Nat):JA:=dB sq 0 [] (es.take x)
theorem BK(sq:Rat)(es:List Ent){x:Nat}(h:x<es.length):jA sq es (x+1)=⟨(joinL sq (es.getD x E0).layer x 0 (jA sq es x).sp (aZ (es.getD x E0))).sp,(jA sq es x).es++[fF (es.getD x E0) (joinL sq (es.getD x E0).layer x 0 (jA sq es x).sp (aZ (es.getD x E0))).ws],(jA sq es x).cs++(joinL sq (es.getD x E0).layer x 0 (jA sq es x).sp (aZ (es.getD x E0))).cs⟩:=by
 have h1:es.take (x+1)=es.take x++[es.getD x E0]:=by
  rw [List.take_succ,List.getElem?_eq_getElem h];simp [List.getD_eq_getElem?_getD,h]
 have h2:(es.take x).length=x:=by simp;omega
 unfold jA;rw [h1,yV,h2,Nat.zero_add]
theorem BD(sq:Rat)(es:List Ent):jA sq es es.length=dB sq 0 [] es:=by unfold jA;rw [List.take_length]
def nE(es:List Ent)(x:Nat):Nat:=((es.take x).map λe=>(aZ e).length).sum
theorem xB(es:List Ent){x:Nat}(h:x<es.length):nE es (x+1)=nE es x+(aZ (es.getD x E0)).length:=by
 have h1:es.take (x+1)=es.take x++[es.getD x E0]:=by
  rw [List.take_succ,List.getElem?_eq_getElem h];simp [List.getD_eq_getElem?_getD,h]
 unfold nE;rw [h1];simp
theorem J5(es:List Ent):∀x,nE es x≤2*x
 |0=>by simp [nE]
 |x+1=>by
  by_cases h:x<es.length
  ·rw [xB es h];have:=J5 es x;have h2:(aZ (es.getD x E0)).length≤2:=by rcases Gu (es.getD x E0) with h|h<;>omega
   omega
  ·have h1:es.take (x+1)=es.take x:=by rw [List.take_of_length_le (by omega),List.take_of_length_le (by omega)]
   have:=J5 es x;unfold nE at this ⊢;rw [h1];omega
def Yl(q:P2→Prop)(sp:dX):Prop:=∀p∈sp,q p.2
theorem pU{sp:dX}{s:ByteArray}{v:P2}(h:v∈bF sp s):∃p∈sp,p.2=v:=by
 unfold bF at h;obtain ⟨p,hp,rfl⟩:=List.mem_map.1 h;exact ⟨p,(List.mem_filter.1 hp).1,rfl⟩
theorem wL(sp:dX)(s:ByteArray):(bF sp s).length≤sp.length:=by
 unfold bF;rw [List.length_map];exact List.length_filter_le _ _
theorem uX{q:P2→Prop}{sq:Rat}{sp:dX}{s:ByteArray}{v:P2}(h:Yl q sp)(hv:q v):Yl q (bK sq sp s v).1∧q (bK sq sp s v).2∧(bK sq sp s v).1.length≤sp.length+1:=by
 have h2:=AX sq sp s v
 have key:Yl q (bK sq sp s v).1∧(bK sq sp s v).1.length≤sp.length+1:=by
  unfold bK;split
  ·exact ⟨h,by simp⟩
  ·refine ⟨λp hp=>?_,by simp⟩;rcases List.mem_append.1 hp with hp|hp
   ·exact h p hp
   ·simp only [List.mem_singleton] at hp;subst hp;exact hv
 obtain ⟨p,hp,he⟩:=pU h2;exact ⟨key.1,he ▸ key.1 p hp,key.2⟩
theorem AY{q:P2→Prop}{sq:Rat}{s:ByteArray}{i:Nat}:∀{l:List P2} {k:Nat} {sp:dX},Yl q sp→(∀v∈l,q v)→Yl q (joinL sq s i k sp l).sp∧(∀w∈(joinL sq s i k sp l).ws,q w)∧(joinL sq s i k sp l).sp.length≤sp.length+l.length∧(joinL sq s i k sp l).ws.length=l.length∧(joinL sq s i k sp l).cs.length≤l.length
 |[],k,sp,h,_=>⟨h,λw hw=>by simp [joinL] at hw,by simp [joinL],rfl,by simp [joinL]⟩
 |v :: r,k,sp,h,hl=>by
  obtain ⟨h1,h2,h3⟩:=uX (sq:=sq) (s:=s) h (hl v (by simp));obtain ⟨h4,h5,h6,h7,h8⟩:=AY (sq:=sq) (s:=s) (i:=i) (l:=r) (k:=k+1) h1 (λw hw=>hl w (by simp [hw]));refine ⟨h4,λw hw=>?_, ?_,by simp [joinL,h7], ?_⟩
  ·simp only [joinL,List.mem_cons] at hw;rcases hw with rfl|hw
   ·exact h2
   ·exact h5 w hw
  ·simp only [joinL,List.length_cons];omega
  ·simp only [joinL,List.length_append,List.length_cons];have:(jn i k v (bK sq sp s v).2).length≤1:=by unfold jn;split<;>simp
   omega
theorem iy{e:Ent}{v:P2}(h:v∈aZ e):v∈e.pts:=by
 rcases fU e with ⟨h1,_⟩|⟨a,b,_,h2,h3⟩|⟨a,m,b,_,h2,h3⟩
 ·rw [h1] at h;cases h
 ·rw [h3] at h;rw [h2];exact h
 ·rw [h3] at h;rw [h2];simp at h ⊢;rcases h with h|h<;>simp [h]
theorem zq{q:P2→Prop}{e:Ent}{l:List P2}(h:∀p∈e.pts,q p)(hl:∀p∈l,q p):∀p∈(fF e l).pts,q p:=by
 unfold fF;split
 ·rename_i a b _ _ hp;intro p hp';simp at hp';rcases hp' with rfl|rfl<;>exact hl _ (by simp)
 ·rename_i a b _ m _ hp;intro p hp';simp at hp';rcases hp' with rfl|rfl|rfl
  ·exact hl _ (by simp)
  ·exact h _ (by rw [hp];simp)
  ·exact hl _ (by simp)
 ·exact h
theorem Es{es:List Ent}{x:Nat}(h:x<es.length):es.getD x E0∈es:=by
 have:es.getD x E0=es[x]:=by simp [List.getD_eq_getElem?_getD,h]
 rw [this];exact List.getElem_mem h
theorem Jk{q:P2→Prop}{sq:Rat}{es:List Ent}(h:∀e∈es,∀p∈e.pts,q p):∀x,x≤es.length→Yl q (jA sq es x).sp∧(∀e∈(jA sq es x).es,∀p∈e.pts,q p)∧(jA sq es x).sp.length≤nE es x∧(jA sq es x).cs.length≤nE es x∧(jA sq es x).es.length=x
 |0,_=>⟨λp hp=>by simp [jA,dB] at hp,λe he=>by simp [jA,dB] at he,by simp [jA,dB],by simp [jA,dB],by simp [jA,dB]⟩
 |x+1,hx=>by
  have hlt:x<es.length:=by omega
  obtain ⟨h1,h2,h3,h4,h5⟩:=Jk (sq:=sq) h x (by omega);have he:=Es hlt;obtain ⟨k1,k2,k3,k4,k5⟩:=AY (q:=q) (sq:=sq) (s:=(es.getD x E0).layer) (i:=x) (k:=0) (l:=aZ (es.getD x E0)) h1 (λv hv=>h _ he v (iy hv));rw [BK sq es hlt,xB es hlt];refine ⟨k1,λe hm=>?_, ?_, ?_, ?_⟩
  ·simp only [List.mem_append,List.mem_singleton] at hm;rcases hm with hm|rfl
   ·exact h2 e hm
   ·exact zq (h _ he) k2
  ·simp only;omega
  ·simp only [List.length_append];omega
  ·simp only [List.length_append,List.length_singleton];omega
theorem ny(e:Ent):aZ e=[]∨∃a b,aZ e=[a,b]:=by
 rcases fU e with ⟨h1,_⟩|⟨a,b,_,_,h3⟩|⟨a,m,b,_,_,h3⟩
 ·exact .inl h1
 ·exact .inr ⟨a,b,h3⟩
 ·exact .inr ⟨a,b,h3⟩
theorem Tn{es:List Ent}(h:∀e∈es,(∀p∈e.pts,bJ p)∧e.layer.size≤1000∧e.pts.length≤3)(x:Nat):(∀p∈(es.getD x E0).pts,bJ p)∧(es.getD x E0).layer.size≤1000∧(es.getD x E0).pts.length≤3:=by
 by_cases hx:x<es.length
 ·exact h _ (Es hx)
 ·have:es.getD x E0=E0:=by simp [List.getD_eq_getElem?_getD,Nat.le_of_not_lt hx]
  rw [this];exact ⟨λp hp=>by simp [E0] at hp,by decide,by decide⟩
theorem TU{i k:Nat}{a w:P2}(h:(!(decide (a.1=w.1) && decide (a.2=w.2)))=true):jn i k a w=[⟨1,i,k,some a,some w⟩]:=by
 unfold jn;rw [if_neg];rintro rfl;simp at h
theorem S9{i k:Nat}{a w:P2}(h:(!(decide (a.1=w.1) && decide (a.2=w.2)))=false):jn i k a w=[]:=by
 unfold jn;rw [if_pos];simp at h;exact Prod.ext h.1 h.2
theorem spq{sp:dX}{s:ByteArray}(h:Yl bJ sp)(p:P2)(hp:p∈bF sp s):rz p.1≤12∧rz p.2≤12:=by
 obtain ⟨q,hq,rfl⟩:=pU hp;exact h q hq
theorem YA(sq:Rat)(es:List Ent){x:Nat}(h:x<es.length)(hE:aZ (es.getD x E0)=[]):jA sq es (x+1)=⟨(jA sq es x).sp,(jA sq es x).es++[es.getD x E0],(jA sq es x).cs⟩∧nE es (x+1)=nE es x:=by
 rw [BK sq es h,xB es h,hE];refine ⟨?_,rfl⟩;have h2:fF (es.getD x E0) []=es.getD x E0:=by rw [← hE];exact Ig _
 simp only [joinL,h2,List.append_nil]
theorem WX(sq:Rat)(es:List Ent){x:Nat}{a b:P2}(h:x<es.length)(hE:aZ (es.getD x E0)=[a,b]):jA sq es (x+1)=⟨(bK sq (bK sq (jA sq es x).sp (es.getD x E0).layer a).1 (es.getD x E0).layer b).1,(jA sq es x).es++[fF (es.getD x E0) [(bK sq (jA sq es x).sp (es.getD x E0).layer a).2,(bK sq (bK sq (jA sq es x).sp (es.getD x E0).layer a).1 (es.getD x E0).layer b).2]],(jA sq es x).cs++(jn x 0 a (bK sq (jA sq es x).sp (es.getD x E0).layer a).2++jn x 1 b (bK sq (bK sq (jA sq es x).sp (es.getD x E0).layer a).1 (es.getD x E0).layer b).2)⟩∧nE es (x+1)=nE es x+1+1:=by
 rw [BK sq es h,xB es h,hE];refine ⟨?_,rfl⟩;simp [joinL]
def N0:Ent × Nat:=(E0,0)
def SH(e:Ent):Prop:=(∀p∈e.pts,bJ p)∧e.layer.size≤1000∧e.pts.length≤3
theorem adb:SH E0:=⟨λp hp=>by simp [E0] at hp,by decide,by decide⟩
theorem KY{l:List (Ent × Nat)}(h:∀x∈l,SH x.1)(x:Nat):SH (l.getD x N0).1:=by
 by_cases hx:x<l.length
 ·have:l.getD x N0=l[x]:=by simp [List.getD_eq_getElem?_getD,hx]
  rw [this];exact h _ (List.getElem_mem hx)
 ·have:l.getD x N0=N0:=by simp [List.getD_eq_getElem?_getD,Nat.le_of_not_lt hx]
  rw [this];exact adb
theorem Oi{v w:P2}:(decide (v.1=w.1) && decide (v.2=w.2))=decide (v=w):=by
 rw [Bool.eq_iff_iff];simp [Prod.ext_iff]
theorem su{l:List (Ent × Nat)}{x:Nat}(h:x<l.length):l[x]?=some (l.getD x N0):=by simp [List.getD_eq_getElem?_getD,h]
theorem LX{l:List (Ent × Nat)}{s:ByteArray}{i k:Nat}{v:P2}{x:Nat}(h:x<l.length)(hE:aZ (l.getD x N0).1=[]):metAt l s i k v x=false:=by
 unfold metAt;rw [su h];simp only [];rw [hE];simp
theorem LC{l:List (Ent × Nat)}{s:ByteArray}{i k:Nat}{v a b:P2}{x:Nat}(h:x<l.length)(hE:aZ (l.getD x N0).1=[a,b]):metAt l s i k v x=(eqS (l.getD x N0).1.layer s && (((x != i || 0 != k) && decide (v=a)) || ((x != i || 1 != k) && decide (v=b)))):=by
 unfold metAt;rw [su h];simp only [];rw [hE]
theorem Ba{l:List (Ent × Nat)}{s:ByteArray}{i k:Nat}{v:P2}{x:Nat}(h:x<l.length)(hE:(!((l.getD x N0).1.layer.toList == s.toList))=true):metAt l s i k v x=false:=by
 unfold metAt;rw [su h];simp only [eqS];simp only [Bool.not_eq_true'] at hE;rw [hE];simp
theorem Jo{l:List (Ent × Nat)}{s:ByteArray}{i k:Nat}{v a b:P2}{x:Nat}(h:x<l.length)(hE:aZ (l.getD x N0).1=[a,b])(hL:(!((l.getD x N0).1.layer.toList == s.toList))=false):metAt l s i k v x=(((x != i || 0 != k) && (decide (v.1=a.1) && decide (v.2=a.2))) || ((x != i || 1 != k) && (decide (v.1=b.1) && decide (v.2=b.2)))):=by
 rw [LC h hE,Oi,Oi];simp only [Bool.not_eq_false'] at hL;simp only [eqS,hL,Bool.true_and]
theorem Yg{l:List (Ent × Nat)}{s:ByteArray}{i k:Nat}{v:P2}{x:Nat}(h:x<l.length)(hm:metAt l s i k v x=true):zJ l s i k v=true:=by
 unfold zJ;exact List.any_eq_true.2 ⟨x,by simpa using h,hm⟩
theorem PX{l:List (Ent × Nat)}{s:ByteArray}{i k:Nat}{v:P2}(hm:∀j<l.length,metAt l s i k v j=false):zJ l s i k v=false:=by
 unfold zJ;rw [List.any_eq_false];intro j hj;rw [hm j (by simpa using hj)];simp
theorem sF{l:List (Ent × Nat)}{s:ByteArray}{i k:Nat}{v:P2}{x:Nat}(hm:∀j<x,metAt l s i k v j=false)(h:metAt l s i k v x=false):∀j<x+1,metAt l s i k v j=false:=λj hj=>by
 rcases Nat.lt_or_ge j x with h1|h1
 ·exact hm j h1
 ·have:j=x:=by omega
  subst this;exact h
def QL(l:List (Ent × Nat))(x:Nat):List Chn:=(List.range x).flatMap (opn l)
theorem Ld(l:List (Ent × Nat)):QL l l.length=Kt l:=rfl
theorem KF{l:List (Ent × Nat)}{x:Nat}(h:x<l.length)(hE:aZ (l.getD x N0).1=[]):QL l (x+1)=QL l x:=by
 unfold QL;rw [List.range_succ,List.flatMap_append]
 have:opn l x=[]:=by
  unfold opn;rw [su h];simp only [];rw [hE]
 simp [this]
theorem Jl{l:List (Ent × Nat)}{x:Nat}{a b:P2}(h:x<l.length)(hE:aZ (l.getD x N0).1=[a,b]):QL l (x+1)=QL l x++(wQ l (l.getD x N0).1.layer (l.getD x N0).2 x 0 a++wQ l (l.getD x N0).1.layer (l.getD x N0).2 x 1 b):=by
 unfold QL;rw [List.range_succ,List.flatMap_append]
 have:opn l x=wQ l (l.getD x N0).1.layer (l.getD x N0).2 x 0 a++wQ l (l.getD x N0).1.layer (l.getD x N0).2 x 1 b:=by
  unfold opn;rw [su h];simp only [];rw [hE]
 simp [this]
theorem Bq{l:List (Ent × Nat)}{s:ByteArray}{n i k:Nat}{v:P2}(h:(!zJ l s i k v)=true):wQ l s n i k v=[⟨4,n,k,some v,some v⟩]:=by
 unfold wQ;rw [if_neg];simpa using h
theorem BR{l:List (Ent × Nat)}{s:ByteArray}{n i k:Nat}{v:P2}(h:(!zJ l s i k v)=false):wQ l s n i k v=[]:=by
 unfold wQ;rw [if_pos];simpa using h
theorem Fv{l:List (Ent × Nat)}{s:ByteArray}{n i k:Nat}{v:P2}:(wQ l s n i k v).length≤1:=by
 unfold wQ;split<;>simp
theorem wZ(l:List (Ent × Nat)):∀x,x≤l.length→(QL l x).length≤2*x
 |0,_=>by simp [QL]
 |x+1,h=>by
  have ih:=wZ l x (by omega);rcases ny (l.getD x N0).1 with hE|⟨a,b,hE⟩
  ·rw [KF (by omega) hE];omega
  ·rw [Jl (by omega) hE];have h1:=Fv (l:=l) (s:=(l.getD x N0).1.layer) (n:=(l.getD x N0).2) (i:=x) (k:=0) (v:=a);have h2:=Fv (l:=l) (s:=(l.getD x N0).1.layer) (n:=(l.getD x N0).2) (i:=x) (k:=1) (v:=b);simp only [List.length_append];omega
abbrev oh(a b c:P2):Rat:=cD a.1 a.2 b.1 b.2 c.1 c.2
abbrev Xz(a b c:P2):Rat:=cU a.1 a.2 b.1 b.2 c.1 c.2
abbrev Yv(a b c:P2):Rat:=cV a.1 a.2 b.1 b.2 c.1 c.2
def ctX(a b c:P2):Rat:=a.1+Xz a b c / (oh a b c+oh a b c)
def ctY(a b c:P2):Rat:=a.2+Yv a b c / (oh a b c+oh a b c)
def OX(a b c:P2):Rat:=Xz a b c / (oh a b c+oh a b c)*(Xz a b c / (oh a b c+oh a b c))+Yv a b c / (oh a b c+oh a b c)*(Yv a b c / (oh a b c+oh a b c))
@[reducible] def ctr(a b c:P2):P2:=(ctX a b c,ctY a b c)
abbrev DK(k:P2)(q:Rat)(p:P2):Prop:=(p.1-k.1)*(p.1-k.1)+(p.2-k.2)*(p.2-k.2)=q
def ZE(k:P2)(q:Rat)(cw:Bool)(a c p:P2):Bool:=decide (DK k q p) && decide ((if cw=true then zC k c p a else zC k a p c)≤0)
theorem Vu{x y X Y Q:Rat}:decide (-(aU ((x-X)*(x-X)+(y-Y)*(y-Y)-Q))=0)=decide (DK (X,Y) Q (x,y)):=by
 rw [decide_eq_decide];constructor
 ·intro h;have:=(gq (a:=(x-X)*(x-X)+(y-Y)*(y-Y)-Q)).1 (by omega);unfold DK;simp only;grind
 ·intro h;unfold DK at h;simp only at h;have:aU ((x-X)*(x-X)+(y-Y)*(y-Y)-Q)=0:=gq.2 (by grind);omega
theorem XZ(a b:Rat):uh a b 0=aU a:=by
 unfold uh;have:aU b*aU 0=0:=by rw [gq.2 rfl];omega
 rw [if_pos (.inr this)]
set_option synthInstance.maxSize 4000 in
set_option synthInstance.maxHeartbeats 400000 in
theorem Ir{a b c:P2}(h1:bJ a)(h2:bJ b)(h3:bJ c):rz (ctX a b c)≤7000∧rz (ctY a b c)≤7000∧rz (OX a b c)≤27000:=by
 obtain ⟨a1,a2⟩:=a;obtain ⟨b1,b2⟩:=b;obtain ⟨c1,c2⟩:=c;have i1:RzB a1 12:=⟨h1.1⟩
 have i2:RzB a2 12:=⟨h1.2⟩
 have i3:RzB b1 12:=⟨h2.1⟩
 have i4:RzB b2 12:=⟨h2.2⟩
 have i5:RzB c1 12:=⟨h3.1⟩
 have i6:RzB c2 12:=⟨h3.2⟩
 simp only [ctX,ctY,OX,Xz,Yv,oh,cU,cV,cD];exact ⟨uF (by omega),uF (by omega),uF (by omega)⟩
theorem YS(a b c:P2):jy a b c=oh a b c:=by unfold jy oh cD;grind
theorem Uj{a b c:P2}(h:¬oh a b c=0):DK (ctr a b c) (OX a b c) a∧DK (ctr a b c) (OX a b c) b∧DK (ctr a b c) (OX a b c) c∧0<OX a b c :=
 ⟨Y1 h rfl rfl,X5 h rfl rfl,Xe h rfl rfl,YU h⟩
theorem UR{a b c p:P2}(h:¬oh a b c=0):DK (ctr a b c) (OX a b c) p↔Xz a b c*(p.1-a.1)+Yv a b c*(p.2-a.2)=oh a b c*((p.1-a.1)*(p.1-a.1)+(p.2-a.2)*(p.2-a.2)):=by
 have h2:=BA h;unfold DK ctr ctX ctY OX;generalize oh a b c=D at *;generalize Xz a b c=U at *;generalize Yv a b c=V at *;obtain ⟨a1,a2⟩:=a;obtain ⟨p1,p2⟩:=p;simp only;have e1:U / (D+D)*(D+D)=U:=by grind
 have e2:V / (D+D)*(D+D)=V:=by grind
 generalize U / (D+D)=u at *;generalize V / (D+D)=v at *;subst e1 e2;constructor
 ·intro e;have e3:u*(p1-a1)+u*(p1-a1)+(v*(p2-a2)+v*(p2-a2))=(p1-a1)*(p1-a1)+(p2-a2)*(p2-a2):=by grind
  have e4:D*(u*(p1-a1)+u*(p1-a1)+(v*(p2-a2)+v*(p2-a2)))=D*((p1-a1)*(p1-a1)+(p2-a2)*(p2-a2)):=by rw [e3]
  grind
 ·intro e;have e4:D*((u*(p1-a1)+u*(p1-a1)+(v*(p2-a2)+v*(p2-a2)))-((p1-a1)*(p1-a1)+(p2-a2)*(p2-a2)))=0:=by grind
  rcases Rat.mul_eq_zero.1 e4 with h3|h3
  ·exact absurd h3 h
  ·grind
theorem Am(a:Int):iK (-a) = -iK a:=by unfold iK;(repeat' split)<;>omega
theorem MV(k p:P2):dU k p p=0:=by
 have:=iw k p p;omega
theorem RI(k p:P2):Gz k p p=0:=by unfold Gz;rw [MV];rfl
theorem W9(k f p:P2):0≤Gz k f p:=by unfold Gz;(repeat' split)<;>omega
theorem Kr(k f p:P2):0≤Gz k f p∧Gz k f p≤2:=by unfold Gz;(repeat' split)<;>omega
theorem Gq(k f p q:P2):zC k f p q = -zC k f q p:=by
 unfold zC;rw [iw k p q]
 by_cases h:Gz k f p=Gz k f q
 ·rw [if_pos h,if_pos h.symm,Am]
 ·rw [if_neg h,if_neg (λe=>h e.symm),← Am];congr 1;omega
theorem ML(k f q:P2):zC k f f q≤0:=by
 unfold zC;rw [RI];have:=W9 k f q;split
 ·rename_i e
  have h0:dU k q f=0:=by
   unfold Gz at e
   (repeat' split at e)<;>first|assumption|omega
  rw [iw,h0];decide
 ·rw [Gj];omega
theorem P5(k f q:P2):zC k f q q≤0:=by
 have:=Gq k f q q;omega
theorem Tc{k f p q:P2}(h:zC k f p q=0):dU k p q=0:=by
 unfold zC at h;split at h
 ·exact uY.1 h
 ·rw [uY] at h;omega
theorem cwE{a b c d e f:Rat}:decide (gG ((c-a)*(f-b)) ((d-b)*(e-a)) > 0)=decide (0<cD a b c d e f):=by
 rw [decide_eq_decide,FC];unfold cD;constructor<;>intro h<;>grind
theorem cwF{a b c d e f:Rat}:decide ((d-b)*(e-a)<(c-a)*(f-b))=decide (0<cD a b c d e f):=by
 rw [decide_eq_decide];unfold cD;constructor<;>intro h<;>grind
theorem Xo{k a p c:P2}{q:Rat}(hq:0<q)(e1:DK k q a)(e2:DK k q p)(e3:DK k q c)(h1:p≠a)(h2:p≠c)(h3:a≠c):jy a p c≠0:=by
 have n1:=Zf hq e1;have n2:=Zf hq e2;have n3:=Zf hq e3;have d1:dU k a p≠0:=λg=>h1 (qA e1 e2 n1 n2 g).symm
 have d2:dU k p c≠0:=λg=>h2 (qA e2 e3 n2 n3 g)
 have d3:dU k a c≠0:=λg=>h3 (qA e1 e3 n1 n3 g)
 have a1:=iw k a p;have a2:=iw k p c;have a3:=iw k a c;have x1:jy a c p = -jy a p c:=by unfold jy;grind
 have x2:jy c a p=jy a p c:=by unfold jy;grind
 have x3:jy p a c = -jy a p c:=by unfold jy;grind
 have x4:jy p c a=jy a p c:=by unfold jy;grind
 have x5:jy c p a = -jy a p c:=by unfold jy;grind
 intro hz;have l1:dU k a p<0→dU k p c<0→False:=λg1 g2=>by have:=Ue e1 e2 e3 n1 n2 n3 g1 g2;grind
 have l2:dU k a c<0→dU k c p<0→False:=λg1 g2=>by have:=Ue e1 e3 e2 n1 n3 n2 g1 g2;grind
 have l3:dU k c a<0→dU k a p<0→False:=λg1 g2=>by have:=Ue e3 e1 e2 n3 n1 n2 g1 g2;grind
 have l4:dU k p a<0→dU k a c<0→False:=λg1 g2=>by have:=Ue e2 e1 e3 n2 n1 n3 g1 g2;grind
 have l5:dU k p c<0→dU k c a<0→False:=λg1 g2=>by have:=Ue e2 e3 e1 n2 n3 n1 g1 g2;grind
 have l6:dU k c p<0→dU k p a<0→False:=λg1 g2=>by have:=Ue e3 e2 e1 n3 n2 n1 g1 g2;grind
 clear e1 e2 e3 n1 n2 n3 x1 x2 x3 x4 x5 hz;generalize dU k a p=A at *;generalize dU k p c=B at *;generalize dU k a c=C at *;generalize dU k p a=A' at *;generalize dU k c p=B' at *;generalize dU k c a=C' at *
 by_cases g1:A<0<;>by_cases g2:B<0<;>by_cases g3:C<0
 ·exact l1 g1 g2
 ·exact l1 g1 g2
 ·exact l2 g3 (by omega)
 ·exact l3 (by omega) g1
 ·exact l4 (by omega) g3
 ·exact l5 g2 (by omega)
 ·exact l6 (by omega) (by omega)
 ·exact l6 (by omega) (by omega)
theorem Gx{k a p c:P2}{q:Rat}(hq:0<q)(e1:DK k q a)(e2:DK k q p)(e3:DK k q c)(h3:a≠c):zC k a p c≤0↔(p=a∨p=c∨0<jy a p c):=by
 have n1:=Zf hq e1;have n2:=Zf hq e2;have n3:=Zf hq e3;constructor
 ·intro h
  by_cases h1:p=a
  ·exact .inl h1
  by_cases h2:p=c
  ·exact .inr (.inl h2)
  refine .inr (.inr ?_);have hne:=Xo hq e1 e2 e3 h1 h2 h3;refine Decidable.byContradiction λhn=>?_
  have hx:0<jy a c p:=by
   have:jy a c p = -jy a p c:=by unfold jy;grind
   grind
  have h4:=KR e1 e3 e2 n1 n3 n2 hx;have h5:=Gq k a p c;have h6:zC k a p c=0:=by omega
  exact h2 (qA e2 e3 n2 n3 (Tc h6))
 ·rintro (rfl|rfl|h)
  ·exact ML k p c
  ·exact P5 k a p
  ·exact KR e1 e2 e3 n1 n2 n3 h
theorem UZ{a b c p:P2}(h:¬oh a b c=0):ZE (ctr a b c) (OX a b c) (!decide (0<oh a b c)) a c p=SG a b c p:=by
 obtain ⟨e1,e2,e3,hq⟩:=Uj h;have hac:a≠c:=λe=>h (by subst e;unfold oh cD;grind)
 unfold ZE SG;rw [Bool.eq_iff_iff];simp only [Bool.and_eq_true,decide_eq_true_eq,ne_eq];rw [← UR (p:=p) h]
 have key:∀ep:DK (ctr a b c) (OX a b c) p,((if (!decide (0<oh a b c))=true then zC (ctr a b c) c p a else zC (ctr a b c) a p c)≤0↔(p=a∨p=c∨0<jy a p c*jy a b c)):=by
  intro ep;rw [YS a b c]
  by_cases hd:0<oh a b c
  ·rw [if_neg (by simp [hd]),Gx hq e1 ep e3 hac]
   have:0<jy a p c↔0<jy a p c*oh a b c:=⟨λh=>Rat.mul_pos h hd,λh=>by
    refine Decidable.byContradiction λhn=>?_
    have:=Rat.mul_nonneg (show 0≤-jy a p c by grind) (show 0≤oh a b c by grind)
    grind⟩
   rw [this]
  ·have hd':oh a b c<0:=by grind
   rw [if_pos (by simp [hd]),Gx hq e3 ep e1 (λe=>hac e.symm)];have hx:jy c p a = -jy a p c:=by unfold jy;grind
   have:0<jy c p a↔0<jy a p c*oh a b c:=⟨λh=>by
    have:=Rat.mul_pos (show 0 < -jy a p c by grind) (show 0 < -oh a b c by grind)
    grind,λh=>by
    refine Decidable.byContradiction λhn=>?_
    have:=Rat.mul_nonneg (show 0≤jy a p c by grind) (show 0≤-oh a b c by grind)
    grind⟩
   rw [this];constructor
   ·rintro (h|h|h)
    ·exact .inr (.inl h)
    ·exact .inl h
    ·exact .inr (.inr h)
   ·rintro (h|h|h)
    ·exact .inr (.inl h)
    ·exact .inl h
    ·exact .inr (.inr h)
 constructor
 ·rintro ⟨g1,g2⟩;exact ⟨h,g1,(key g1).1 g2⟩
 ·rintro ⟨_,g1,g2⟩;exact ⟨g1,(key g1).2 g2⟩
end Go.Sw
