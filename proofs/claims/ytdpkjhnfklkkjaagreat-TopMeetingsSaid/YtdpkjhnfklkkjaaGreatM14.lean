/-
  Rules of the abstract run, plain laws, and what functions answer, for the law TopMeetings.
  Conditions: none.
-/
import Derived.Test.YtdpkjhnfklkkjaaGreatM13
set_option linter.all false
namespace Go.Sw
inductive Sprt where
 |ln (A B C:Rat)
 |ar (X Y Q:Rat) (cw:Bool)
deriving DecidableEq
structure Cv where
 s:Sprt
 p:Pnt
 q:Pnt
def Sprt.k:Sprt->Knd
 |.ln _ _ _ => .ln
 |.ar _ _ _ true => .cw
 |.ar _ _ _ false => .cc
def Sprt.o:Sprt->Pnt->Pnt->Int
 |.ln _ _ _=>kH
 |.ar X Y _ _=>E5 (jl X Y)
def sdS(A B C:Rat)(p:Pnt):Int:=fP (A*p.ax+B*p.ay-C) (A*p.bx+B*p.bb) p.c
def Sprt.on:Sprt->Pnt->Int
 |.ln A B C=>sdS A B C
 |.ar X Y Q _=>inS X Y Q
def pE(p q:Pnt):Bool:=decide (kH p q=0)
def Sprt.same:Sprt->Sprt->Bool
 |.ln A B C,.ln D E F=>decide (A*E=D*B)&&(decide (A*F=D*C)&&decide (B*F=E*C))
 |.ar X Y Q _,.ar U V W _=>decide (X=U)&&(decide (Y=V)&&decide (Q=W))
 |_,_=>false
def Dz(x u y v k:Rat):Pnt:=⟨dS x u k,dN u k,dS y v k,dN v k,eY (dN u k) (dN v k) (if dN u k=0 then dP v k else dP u k)⟩
def Lc(A B C D E F:Rat):List Pnt :=
 if A*E-D*B=0 then[]else[jl ((C*E-F*B)/(A*E-D*B)) ((A*F-D*C)/(A*E-D*B))]
def Jw(A B C X Y:Rat):Rat:=(A*X+B*Y-C)/(A*A+B*B)
def ug(A B C X Y:Rat):Rat:=X-Jw A B C X Y*A
def uf(A B C X Y:Rat):Rat:=Y-Jw A B C X Y*B
def xX(A B C X Y Q:Rat):Rat:=(Q-((ug A B C X Y-X)*(ug A B C X Y-X)+(uf A B C X Y-Y)*(uf A B C X Y-Y)))/(A*A+B*B)
def O8(A B:Rat):Bool:=decide (B<0) ||(decide (B=0)&&decide (-A<0))
def lV(A B:Rat):Rat:=if O8 A B=true then -B else B
def l9(A B:Rat):Rat:=if O8 A B=true then - -A else -A
def Dj(A B C X Y Q:Rat):List Pnt :=
 if xX A B C X Y Q<0 then[]else if xX A B C X Y Q=0 then[jl (ug A B C X Y) (uf A B C X Y)]else
  [Dz (ug A B C X Y) (-lV A B) (uf A B C X Y) (-l9 A B) (xX A B C X Y Q),Dz (ug A B C X Y) (lV A B) (uf A B C X Y) (l9 A B) (xX A B C X Y Q)]
def lI(X Y Q:Rat):Rat:=X*X+Y*Y-Q
def TD(X Y Q U V W:Rat):List Pnt :=
 if(X=U/\Y=V)then[]else Dj (2*(U-X)) (2*(V-Y)) (lI U V W-lI X Y Q) X Y Q
def rC:Sprt->Sprt->List Pnt
 |.ln A B C,.ln D E F=>Lc A B C D E F
 |.ln A B C,.ar X Y Q _=>Dj A B C X Y Q
 |.ar X Y Q _,.ln A B C=>Dj A B C X Y Q
 |.ar X Y Q _,.ar U V W _=>TD X Y Q U V W
theorem wW{A B C:Rat}{p:Pnt}(hp:0<=p.c):SgS (λn=>A*pX p n+B*pY p n-C) (sdS A B C p) :=
 (FC hp).cg λn=>by unfold pX pY v2;grind
theorem ZM{b c:Rat}(hc:0<=c):0<=dP b c:=ag3 hc
theorem Dw{x u y v k:Rat}(hk:0<=k):0<=(Dz x u y v k).c:=by
 unfold Dz eY;simp only
 repeat' split
 all_goals first|exact Rat.le_refl|exact ZM hk
theorem Qs{b c:Rat}(h:dN b c≠0):dP b c=c:=by
 unfold dN dP at *;split at h
 .exact absurd rfl h
 .rename_i g;rw[if_neg g];unfold bH bM at *;split at h
  .exact absurd rfl h
  .rename_i g2;rw[if_neg g2]
theorem adp(x u y v k:Rat):(dN u k≠0->(Dz x u y v k).c=dP u k)/\(dN v k≠0->(Dz x u y v k).c=dP v k):=by
 unfold Dz eY;simp only;constructor
 .intro h;rw[if_neg (λg=>h g.1),if_neg h]
 .intro h;rw[if_neg (λg=>h g.2)];split
  .rfl
  .rename_i h2;rw[Qs h2,Qs h]
theorem ada(x u y v k:Rat):NulS λn=>pX (Dz x u y v k) n-(x+u*nK k n):=by
 refine(QX x u k).cg λn=>?_
 unfold pX v2
 by_cases h:dN u k=0
 .show _=dS x u k+dN u k*nK (Dz x u y v k).c n-_;rw[h];grind
 .show _=dS x u k+dN u k*nK (Dz x u y v k).c n-_;rw[(adp x u y v k).1 h]
theorem adr(x u y v k:Rat):NulS λn=>pY (Dz x u y v k) n-(y+v*nK k n):=by
 refine(QX y v k).cg λn=>?_
 unfold pY v2
 by_cases h:dN v k=0
 .show _=dS y v k+dN v k*nK (Dz x u y v k).c n-_;rw[h];grind
 .show _=dS y v k+dN v k*nK (Dz x u y v k).c n-_;rw[(adp x u y v k).2 h]
theorem iF{a b:Rat}(hb:b≠0):a/b*b=a:=by rw[Rat.div_def];have:=Rat.inv_mul_cancel b hb;grind
theorem sq_pos{A B:Rat}(h:A≠0\/B≠0):A*A+B*B≠0:=by
 intro g;have h1:=wI A;have h2:=wI B;have z:∀x:Rat,x*x=0->x=0:=λx hx=>by rcases Rat.mul_eq_zero.1 hx with h|h<;>exact h
 rcases h with h|h
 .exact h (z A ν)
 .exact h (z B ν)
theorem pF(x y:Rat):0<=(jl x y).c:=Rat.le_refl
theorem abU(x y:Rat)(n:Nat):pX (jl x y) n=x:=by unfold pX jl;grind
theorem aaX(x y:Rat)(n:Nat):pY (jl x y) n=y:=by unfold pY jl;grind
theorem agz{A B C X Y:Rat}(h:A≠0\/B≠0):A*ug A B C X Y+B*uf A B C X Y=C:=by
 unfold ug uf;have h1:Jw A B C X Y*(A*A+B*B)=A*X+B*Y-C:=iF (sq_pos h)
 grind
theorem aiu{A B C X Y Q:Rat}(h:A≠0\/B≠0):xX A B C X Y Q*(A*A+B*B)=Q-((ug A B C X Y-X)*(ug A B C X Y-X)+(uf A B C X Y-Y)*(uf A B C X Y-Y)):=iF (sq_pos h)
theorem Yr(A B:Rat):A*lV A B+B*l9 A B=0/\lV A B*lV A B+l9 A B*l9 A B=A*A+B*B:=by
 unfold lV l9;split<;>constructor<;>grind
theorem Qw{A B C x u y v k:Rat}(hk:0<=k)(h1:A*x+B*y=C)(h2:A*u+B*v=0):sdS A B C (Dz x u y v k)=0:=by
 refine(wW (Dw hk)).uniq (SgS.of_nul ((((ada x u y v k).cmul A).add ((adr x u y v k).cmul B)).cg λn=>?_))
 have:A*(u*nK k n)+B*(v*nK k n)=0:=by
  have:(A*u+B*v)*nK k n=0:=by rw[h2];grind
  grind
 grind
theorem Qm{X Y Q x u y v k:Rat}(hk:0<=k)(h1:(x-X)*u+(y-Y)*v=0)(h2:(u*u+v*v)*k=Q-((x-X)*(x-X)+(y-Y)*(y-Y))):inS X Y Q (Dz x u y v k)=0:=by
 have hp:=Dw (x:=x) (u:=u) (y:=y) (v:=v) hk;have a1:Cau λn=>pX (Dz x u y v k) n-X+(x+u*nK k n-X):=((OX hp).sub (Cau.const X)).add (((Cau.const x).add ((Cau.const u).mul (jO hk))).sub (Cau.const X))
 have a2:Cau λn=>pY (Dz x u y v k) n-Y+(y+v*nK k n-Y):=((OV hp).sub (Cau.const Y)).add (((Cau.const y).add ((Cau.const v).mul (jO hk))).sub (Cau.const Y))
 refine(zN hp).uniq (SgS.of_nul (((((ada x u y v k).mul a1.bnd).add ((adr x u y v k).mul a2.bnd)).add ((CG hk).cmul (u*u+v*v))).cg λn=>?_));have e1:2*nK k n*((x-X)*u+(y-Y)*v)=0:=by rw[h1];grind
 grind
theorem X7{A B C X Y Q:Rat}(h:A≠0\/B≠0){p:Pnt}(hp:p∈Dj A B C X Y Q):0<=p.c/\sdS A B C p=0/\inS X Y Q p=0:=by
 have hf:=agz (C:=C) (X:=X) (Y:=Y) h;have hd:=aiu (C:=C) (X:=X) (Y:=Y) (Q:=Q) h;obtain⟨d1,d2⟩:=Yr A B;have hfx:ug A B C X Y-X = -(Jw A B C X Y*A):=by unfold ug;grind
 have hfy:uf A B C X Y-Y = -(Jw A B C X Y*B):=by unfold uf;grind
 unfold Dj at hp;split at hp
 .cases hp
 .rename_i h0;split at hp
  .rename_i h1;rw[h1]at hd;rw[pI.1 hp];refine⟨pF _ _, ?_, ?_⟩
   .exact(wW (pF _ _)).uniq (SgS.of_nul (NulS.zero.cg λn=>by rw[abU,aaX];grind))
   .exact(zN (pF _ _)).uniq (SgS.of_nul (NulS.zero.cg λn=>by rw[abU,aaX];grind))
  .have hk:0<=xX A B C X Y Q:=Rat.not_lt.1 h0;have p1:A * -lV A B+B * -l9 A B=0:=ν
   have e1:(ug A B C X Y-X)*lV A B+(uf A B C X Y-Y)*l9 A B=0:=by
    rw[hfx,hfy];have:Jw A B C X Y*(A*lV A B+B*l9 A B)=0:=by rw[d1];grind
    grind
   have e2:(ug A B C X Y-X) * -lV A B+(uf A B C X Y-Y) * -l9 A B=0:=ν
   have e3:(lV A B*lV A B+l9 A B*l9 A B)*xX A B C X Y Q=Q-((ug A B C X Y-X)*(ug A B C X Y-X)+(uf A B C X Y-Y)*(uf A B C X Y-Y)):=by rw[d2,<-hd];grind
   have e4:(-lV A B * -lV A B + -l9 A B * -l9 A B)*xX A B C X Y Q=Q-((ug A B C X Y-X)*(ug A B C X Y-X)+(uf A B C X Y-Y)*(uf A B C X Y-Y)):=by rw[<-e3];grind
   rcases jA.1 hp with rfl|hp
   .exact⟨Dw hk,Qw hk hf p1,Qm hk e2 e4⟩
   .rw[pI.1 hp];exact⟨Dw hk,Qw hk hf d1,Qm hk e1 e3⟩
theorem aiw{A B C D E F:Rat}{p:Pnt}(hp:p∈Lc A B C D E F):0<=p.c/\sdS A B C p=0/\sdS D E F p=0:=by
 unfold Lc at hp;split at hp
 .cases hp
 .rename_i h0;rw[pI.1 hp];have h1:=iF (a:=C*E-F*B) h0;have h2:=iF (a:=A*F-D*C) h0;generalize(C*E-F*B)/(A*E-D*B)=x at h1 ⊢;generalize(A*F-D*C)/(A*E-D*B)=y at h2 ⊢;have k1:(A*x+B*y-C)*(A*E-D*B)=0:=ν
  have k2:(D*x+E*y-F)*(A*E-D*B)=0:=ν
  have k1:A*x+B*y-C=0:=(Rat.mul_eq_zero.1 k1).resolve_right h0;have k2:D*x+E*y-F=0:=(Rat.mul_eq_zero.1 k2).resolve_right h0;exact⟨pF _ _,(wW (pF _ _)).uniq (SgS.of_nul (NulS.zero.cg λn=>by rw[abU,aaX];grind)),(wW (pF _ _)).uniq (SgS.of_nul (NulS.zero.cg λn=>by rw[abU,aaX];grind))⟩
theorem agf{X Y Q U V W:Rat}{p:Pnt}(hp:p∈TD X Y Q U V W):0<=p.c/\inS X Y Q p=0/\inS U V W p=0:=by
 unfold TD at hp;split at hp
 .cases hp
 .rename_i h0
  have h:2*(U-X)≠0\/2*(V-Y)≠0:=by
   by_cases h1:X=U
   .right;intro g;exact h0 ⟨h1,ν⟩
   .left;intro g;exact h1 ν
  obtain⟨k1,k2,k3⟩:=X7 h hp;refine⟨k1,k3, ?_⟩;have s1:=wW (A:=2*(U-X)) (B:=2*(V-Y)) (C:=lI U V W-lI X Y Q) k1;have s2:=zN (X:=X) (Y:=Y) (Q:=Q) k1;rw[k2]at s1;rw[k3]at s2;refine(zN k1).uniq (SgS.of_nul ((s2.nul.sub s1.nul).cg λn=>?_));unfold lI
  grind
theorem aeI(A B C D E F:Rat):Lc A B C D E F=Lc D E F A B C:=by
 unfold Lc;have e:D*B-A*E = -(A*E-D*B):=ν
 by_cases h:A*E-D*B=0
 .rw[if_pos h,if_pos (by rw[e,h];grind)]
 .rw[if_neg h,if_neg (by rw[e];intro g;exact h ν)]
  have hd:∀x:Rat,(-x)/(D*B-A*E)=x/(A*E-D*B):=λx=>by
   have k1:=iF (a:=-x) (b:=D*B-A*E) (by rw[e];intro g;exact h ν);have k2:=iF (a:=x) h;have k3:(-x/(D*B-A*E)-x/(A*E-D*B))*(A*E-D*B)=0:=by rw[e]at k1;rw[e];grind
   have:=(Rat.mul_eq_zero.1 k3).resolve_right h
   grind
  have h1:F*B-C*E = -(C*E-F*B):=ν
  have h2:D*C-A*F = -(A*F-D*C):=ν
  rw[h1,h2,hd,hd]
theorem RQ(A B C X Y:Rat):Jw (-A) (-B) (-C) X Y = -Jw A B C X Y:=by
 unfold Jw;have e1 : -A * -A + -B * -B=A*A+B*B:=ν
 have e2 : -A*X + -B*Y - -C = -(A*X+B*Y-C):=ν
 rw[e1,e2,Rat.div_def,Rat.div_def]
 grind
theorem O4(A B:Rat)(h:A≠0\/B≠0):lV (-A) (-B)=lV A B/\l9 (-A) (-B)=l9 A B:=by
 have key:O8 (-A) (-B) = !O8 A B:=by
  unfold O8;rw[Bool.eq_iff_iff];simp only[Zv,gX,decide_eq_true_eq,Jh,Bool.or_eq_false_iff,Bool.and_eq_false_iff,decide_eq_false_iff_not];constructor
  .intro g;rcases g with g|⟨g1,g2⟩
   .exact⟨ν,.inl ν⟩
   .exact⟨ν,.inr ν⟩
  .rintro ⟨g1,g2⟩
   by_cases hB:B=0
   .right;have hA:A≠0:=h.resolve_right (λf=>f hB);rcases g2 with g2|g2
    .exact absurd hB g2
    .exact⟨by rw[hB];grind,ν⟩
   .left;grind
 unfold lV l9;rw[key];cases O8 A B<;>simp
theorem aed{A B C X Y Q U V W:Rat}(h:A≠0\/B≠0)(hT:ug (-A) (-B) (-C) U V=ug A B C X Y)(hT2:uf (-A) (-B) (-C) U V=uf A B C X Y)(hK:xX (-A) (-B) (-C) U V W=xX A B C X Y Q):Dj (-A) (-B) (-C) U V W=Dj A B C X Y Q:=by
 unfold Dj;rw[hT,hT2,hK,(O4 A B h).1,(O4 A B h).2]
theorem adQ(X Y Q U V W:Rat):TD X Y Q U V W=TD U V W X Y Q:=by
 unfold TD
 by_cases h0:X=U/\Y=V
 .rw[if_pos h0,if_pos ⟨h0.1.symm,h0.2.symm⟩]
 .rw[if_neg h0,if_neg (λg=>h0 ⟨g.1.symm,g.2.symm⟩)]
  have h:2*(U-X)≠0\/2*(V-Y)≠0:=by
   by_cases h1:X=U
   .right;intro g;exact h0 ⟨h1,ν⟩
   .left;intro g;exact h1 ν
  have e1:2*(X-U) = -(2*(U-X)):=ν
  have e2:2*(Y-V) = -(2*(V-Y)):=ν
  have e3:lI X Y Q-lI U V W = -(lI U V W-lI X Y Q):=ν
  rw[e1,e2,e3];obtain⟨A,hA⟩:∃A,A=2*(U-X):=⟨_,rfl⟩
  obtain⟨B,hB⟩:∃B,B=2*(V-Y):=⟨_,rfl⟩
  obtain⟨C,hC⟩:∃C,C=lI U V W-lI X Y Q:=⟨_,rfl⟩
  rw[<-hA,<-hB,<-hC];rw[<-hA,<-hB]at h;have hN:=sq_pos h;have t1:Jw A B C X Y*(A*A+B*B)=A*X+B*Y-C:=iF hN;have t2:Jw A B C U V*(A*A+B*B)=A*U+B*V-C:=iF hN
  have ht:Jw A B C U V=Jw A B C X Y+1/2:=by
   have:(Jw A B C U V-Jw A B C X Y-1/2)*(A*A+B*B)=0:=ν
   have:=(Rat.mul_eq_zero.1 this).resolve_right hN
   grind
  have q1:ug (-A) (-B) (-C) U V=ug A B C X Y:=by unfold ug;rw[RQ,ht];grind
  have q2:uf (-A) (-B) (-C) U V=uf A B C X Y:=by unfold uf;rw[RQ,ht];grind
  refine(aed h q1 q2 ?_).symm;unfold xX;rw[q1,q2];have e4 : -A * -A + -B * -B=A*A+B*B:=ν
  rw[e4];congr 1;unfold ug uf;unfold lI at hC;generalize Jw A B C X Y=t at t1
  grind
theorem aaC(a b:Sprt):rC a b=rC b a:=by
 cases a<;>cases b<;>simp only[rC]
 .exact aeI _ _ _ _ _ _
 .exact adQ _ _ _ _ _ _
def Sprt.ok:Sprt->Prop
 |.ln A B _=>A≠0\/B≠0
 |.ar _ _ Q _=>0<Q
theorem Vk{a b:Sprt}(ha:a.ok)(hb:b.ok){p:Pnt}(hp:p∈rC a b):0<=p.c/\a.on p=0/\b.on p=0:=by
 cases a<;>cases b<;>simp only[rC]at hp
 .exact aiw hp
 .obtain⟨h1,h2,h3⟩:=X7 ha hp;exact⟨h1,h2,h3⟩
 .obtain⟨h1,h2,h3⟩:=X7 hb hp;exact⟨h1,h3,h2⟩
 .exact agf hp
theorem GU(a b:Sprt):(rC a b).length<=2:=by
 have h:∀A B C X Y Q,(Dj A B C X Y Q).length<=2:=λA B C X Y Q=>by
  unfold Dj;split
  .simp
  .split<;>simp
 cases a<;>cases b<;>simp only[rC]
 .unfold Lc;split<;>simp
 .exact h _ _ _ _ _ _
 .exact h _ _ _ _ _ _
 .unfold TD;split
  .simp
  .exact h _ _ _ _ _ _
theorem vV{a b:Sprt}(h:a.same b=true)(hb:b.ok){p:Pnt}(hp:0<=p.c)(h1:b.on p=0):a.on p=0:=by
 cases a with
 |ln A B C =>
  cases b with
  |ln D E F =>
   simp only[Sprt.same,gX,decide_eq_true_eq]at h;obtain⟨e1,e2,e3⟩:=h;have s1:=wW (A:=D) (B:=E) (C:=F) hp;replace h1:sdS D E F p=0:=h1;rw[h1]at s1;refine(wW hp).uniq (SgS.of_nul ?_);rcases hb with hb|hb
   .have:=(s1.nul.cmul (A*D⁻¹))
    refine this.cg λn=>?_
    have hi:=Rat.inv_mul_cancel D hb;have:D*(A*pX p n+B*pY p n-C)=A*(D*pX p n+E*pY p n-F):=ν
    have:D⁻¹*(D*(A*pX p n+B*pY p n-C))=D⁻¹*(A*(D*pX p n+E*pY p n-F)):=by rw[this]
    have:(D⁻¹*D)*(A*pX p n+B*pY p n-C)=(D*pX p n+E*pY p n-F)*(A*D⁻¹):=ν
    rw[hi]at this;rw[<-this];grind
   .have:=(s1.nul.cmul (B*E⁻¹))
    refine this.cg λn=>?_
    have hi:=Rat.inv_mul_cancel E hb;have:E*(A*pX p n+B*pY p n-C)=B*(D*pX p n+E*pY p n-F):=ν
    have:E⁻¹*(E*(A*pX p n+B*pY p n-C))=E⁻¹*(B*(D*pX p n+E*pY p n-F)):=by rw[this]
    have:(E⁻¹*E)*(A*pX p n+B*pY p n-C)=(D*pX p n+E*pY p n-F)*(B*E⁻¹):=ν
    rw[hi]at this;rw[<-this];grind
  |ar=>cases h
 |ar X Y Q cw =>
  cases b with
  |ln=>cases h
  |ar U V W dw =>
   simp only[Sprt.same,gX,decide_eq_true_eq]at h;obtain⟨e1,e2,e3⟩:=h;subst e1 e2 e3;exact h1
def Cv.rc(c:Cv)(p:Pnt):Bool:=SG c.s.o c.s.k c.p c.q p
def Cv.on(c:Cv)(p:Pnt):Bool:=decide (c.s.on p=0)&&c.rc p
def Cv.cand(c d:Cv):List Pnt:=if c.s.same d.s=true then[c.p,c.q,d.p,d.q]else rC c.s d.s
def Cv.meet(c d:Cv):List Pnt:=D9 c.s.o pE c.s.k c.p c.q ((c.cand d).filter λp=>c.rc p&&d.rc p)
def Cv.split(c:Cv)(l:List Pnt):List Cv:=(Ap c.s.o pE c.s.k c.p c.q l).map λa=>⟨c.s,a.1,a.2⟩
def Cv.splitO(c:Cv)(l:List Pnt):List Cv:=if l.all c.on=true then c.split l else[]
def Sprt.rev:Sprt->Sprt
 |.ln A B C => .ln A B C
 |.ar X Y Q cw => .ar X Y Q (!cw)
def Cv.rev(c:Cv):Cv:=⟨c.s.rev,c.q,c.p⟩
def Cv.cov(d p:Cv):Bool:=d.on p.p&&d.on p.q&&(match d.s with
 |.ln _ _ _=>true
 |_ =>
  let t:=if d.s.k=.cw then d.p else d.q
  let u:=if p.s.k=.cw then p.q else p.p
  let v:=if p.s.k=.cw then p.p else p.q
  !pE u t&&decide (LJ d.s.o u v t<=0))
def Cv.com(c d:Cv):Bool:=c.s.same d.s&&(c.splitO (c.meet d)).any λp=>d.cov p
def Cv.eq(c d:Cv):Bool:=c.s.same d.s&&(decide (c.s.k=d.s.k)&&(pE c.p d.p&&pE c.q d.q))
def Cv.sam(a b:Cv):Bool:=a.eq b||a.eq b.rev
structure Cv.ok (c:Cv):Prop where
 s:c.s.ok
 p:0<=c.p.c
 q:0<=c.q.c
 op:c.s.on c.p=0
 oq:c.s.on c.q=0
 ne:kH c.p c.q≠0
structure LawC (c d:Cv):Prop where
 com:c.com d=d.com c
 len:(c.meet d).length=(d.meet c).length
 two:c.com d=false->c.s.same d.s=false->(c.meet d).length<=2
 has:∀p∈c.meet d,(d.meet c).any (λq=>pE p q)=true/\c.on p=true/\d.on p=true
 pcs:∀a∈c.split (c.meet d),∀b∈d.split (c.meet d),a.com b=a.sam b/\∀q∈a.meet b,(pE q a.p||pE q a.q)=true/\(pE q b.p||pE q b.q)=true
 shr:((c.split (c.meet d)).any λa=>(d.split (c.meet d)).any λb=>a.sam b)=c.com d
section
variable {α:Type} {o:α->α->Int} {e:α->α->Bool}
theorem QD{c:α->α->Int}{x y:α}:∀{l:List α},y∈tu c x l↔y=x\/y∈l
 |[]=>by simp[tu]
 |z::r=>by
  unfold tu;split
  .rw[jA,QD,jA];constructor
   .rintro (h|h|h)<;>simp[h]
   .rintro (h|h|h)<;>simp[h]
  .simp
theorem Qc{c:α->α->Int}{y:α}(l:List α):y∈AB c l↔y∈l:=by
 unfold AB;rw[List.mem_reverse]
 have:∀(l a:List α),y∈l.foldl (λa x=>tu c x a) a↔y∈a\/y∈l:=by
  intro l;induction l with
  |nil=>intro a;simp
  |cons x r ih =>
   intro a;rw[Na,ih,QD,jA];constructor
   .rintro ((h|h)|h)<;>simp[h]
   .rintro (h|h|h)<;>simp[h]
 rw[this];simp
theorem IB{p y:α}:∀{l:List α},y∈Dp e p l->y∈l
 |[],h=>h
 |b::r,h=>by
  unfold Dp at h;split at h
  .exact vX _ (IB h)
  .rcases jA.1 h with rfl|h
   .exact List.mem_cons_self
   .exact vX _ (IB h)
theorem V4{y:α}{l:List α}(h:y∈xI e l):y∈l:=by
 cases l with
 |nil=>exact h
 |cons a r =>
  rcases jA.1 h with rfl|h
  .exact List.mem_cons_self
  .exact vX _ (IB h)
theorem wZ{k:Knd}{f t y:α}{l:List α}(h:y∈D9 o e k f t l):y∈l:=(Qc l).1 (V4 h)
theorem NK{f0 t0:α}:∀{l:List α} {cur:α} {a:α×α},a∈Tn e f0 t0 cur l->(a.1=cur\/a.1∈l)/\(a.2=t0\/a.2∈l)
 |[],cur,a,h=>by
  rw[show Tn e f0 t0 cur []=[(cur,t0)]from rfl]at h;rw[pI.1 h];exact⟨.inl rfl,.inl rfl⟩
 |p::r,cur,a,h=>by
  unfold Tn at h;split at h
  .obtain⟨h1,h2⟩:=NK h;exact⟨h1.imp id (vX _),h2.imp id (vX _)⟩
  .rcases jA.1 h with rfl|h
   .exact⟨.inl rfl,.inr List.mem_cons_self⟩
   .obtain⟨h1,h2⟩:=NK h;refine⟨.inr ?_,h2.imp id (vX _)⟩;rcases h1 with h1|h1
    .rw[h1];exact List.mem_cons_self
    .exact vX _ h1
theorem Iy{k:Knd}{f t:α}{l:List α}{a:α×α}(h:a∈Ap o e k f t l):(a.1=f\/a.1∈l)/\(a.2=t\/a.2∈l):=by
 obtain⟨h1,h2⟩:=NK h;exact⟨h1.imp id wZ,h2.imp id wZ⟩
theorem Iu{k:Knd}{f t:α}{l:List α}(hl:l.length<=2):(l=[]/\D9 o e k f t l=[])\/(∃p,l=[p]/\D9 o e k f t l=[p])\/∃p q,l=[p,q] /\
 ((e q p=true/\D9 o e k f t l=[p])\/(e q p=false/\D9 o e k f t l=[p,q])\/(e p q=true/\D9 o e k f t l=[q])\/(e p q=false/\D9 o e k f t l=[q,p])):=by
 match l,hl with
 |[],_=>exact .inl ⟨rfl,rfl⟩
 |[p],_=>exact .inr (.inl ⟨p,rfl,rfl⟩)
 |[p,q],_ =>
  refine .inr (.inr ⟨p,q,rfl, ?_⟩)
  by_cases h:odA o k f t q p<0
  .have e1:D9 o e k f t [p,q]=if e p q=true then[q]else[q,p]:=by
    simp only[D9,AB,Na,List.foldl_nil,tu,if_pos h,List.reverse_cons,List.reverse_nil,qbN,xI,Dp];simp[xI,Dp];split<;>rfl
   cases h2:e p q with
   |true=>right;right;left;exact⟨rfl,by rw[e1,if_pos h2]⟩
   |false=>right;right;right;exact⟨rfl,by rw[e1,if_neg (by rw[h2];decide)]⟩
  .have e1:D9 o e k f t [p,q]=if e q p=true then[p]else[p,q]:=by
    simp only[D9,AB,Na,List.foldl_nil,tu,if_neg h,List.reverse_cons,List.reverse_nil,qbN,xI,Dp];simp[xI,Dp];split<;>rfl
   cases h2:e q p with
   |true=>left;exact⟨rfl,by rw[e1,if_pos h2]⟩
   |false=>right;left;exact⟨rfl,by rw[e1,if_neg (by rw[h2];decide)]⟩
end
theorem Jp{p:Pnt}(hp:0<=p.c):pE p p=true:=decide_eq_true (pcm_ord.refl ⟨p,hp⟩)
theorem Y5{p q:Pnt}(hp:0<=p.c)(hq:0<=q.c):pE p q=pE q p:=by
 have h:kH q p = -(kH p q):=pcm_ord.anti ⟨p,hp⟩ ⟨q,hq⟩;unfold pE;rw[Bool.eq_iff_iff,decide_eq_true_iff,decide_eq_true_iff];omega
theorem BG{a b:Sprt}:a.same b=b.same a:=by
 cases a<;>cases b<;>simp only[Sprt.same]
 .rw[Bool.eq_iff_iff];simp only[gX,decide_eq_true_eq];constructor
  .rintro ⟨h1,h2,h3⟩;exact⟨ν,ν,ν⟩
  .rintro ⟨h1,h2,h3⟩;exact⟨ν,ν,ν⟩
 .rw[Bool.eq_iff_iff];simp only[gX,decide_eq_true_eq];constructor
  .rintro ⟨h1,h2,h3⟩;exact⟨h1.symm,h2.symm,h3.symm⟩
  .rintro ⟨h1,h2,h3⟩;exact⟨h1.symm,h2.symm,h3.symm⟩
theorem Ia{a b:Sprt}(h:a.same b=true):a.o=b.o/\(a.k=.ln↔b.k=.ln):=by
 cases a with
 |ln A B C =>
  cases b with
  |ln D E F=>exact⟨rfl,Iff.rfl⟩
  |ar=>cases h
 |ar X Y Q cw =>
  cases b with
  |ln=>cases h
  |ar U V W dw =>
   simp only[Sprt.same,gX,decide_eq_true_eq]at h;obtain⟨h1,h2,h3⟩:=h;subst h1 h2;exact⟨rfl,by cases cw<;>cases dw<;>simp[Sprt.k]⟩
theorem JV(a b:Sprt):a.same b.rev=a.same b:=by cases a<;>cases b<;>rfl
theorem agH(a:Sprt):a.rev.k=rvK a.k:=by
 cases a with
 |ln=>rfl
 |ar X Y Q cw=>cases cw<;>rfl
theorem acU(s:Sprt):OrdA (λa b:yg=>s.o a.1 b.1):=by
 cases s with
 |ln=>exact pcm_ord
 |ar X Y Q cw=>exact aci _
theorem o_e{s:Sprt}{p q:Pnt}(hp:0<=p.c)(hq:0<=q.c)(h1:s.on p=0)(h2:s.on q=0):pE p q=decide (s.o p q=0):=by
 cases s with
 |ln=>rfl
 |ar X Y Q cw =>
  unfold pE;rw[Bool.eq_iff_iff,decide_eq_true_iff,decide_eq_true_iff];exact(agG hp hq h1 h2).symm
theorem vF{a b:Cv}(hs:a.s.same b.s=true):a.meet b=mtS a.s.o pE a.s.k a.p a.q b.s.k b.p b.q:=by
 unfold Cv.meet Cv.cand mtS mtL;rw[if_pos hs];unfold Cv.rc;rw[(Ia hs).1]
theorem KO{a b:Cv}(hs:a.s.same b.s=true)(h1:b.s.on a.p=0)(h2:b.s.on a.q=0):b.cov a=cvA a.s.o pE b.s.k b.p b.q a.s.k a.p a.q:=by
 have ho:=(Ia hs).1;unfold Cv.cov cvA Cv.on Cv.rc;rw[h1,h2,ho];obtain⟨s,p,q⟩:=b;cases s with
 |ln=>simp[Sprt.k]
 |ar X Y Q cw=>cases cw<;>simp[Sprt.k]
theorem D5{a b:Cv}(hs:a.s.same b.s=true)(h:∀p∈[a.p,a.q,b.p,b.q],a.s.on p=0/\b.s.on p=0):a.com b=ovS a.s.o pE a.s.k a.p a.q b.s.k b.p b.q:=by
 have hm:=vF hs
 have hin:∀p∈a.meet b,p∈[a.p,a.q,b.p,b.q]/\a.rc p=true:=λp hp=>by
  unfold Cv.meet at hp;have h1:=yS.1 (wZ hp);unfold Cv.cand at h1;rw[if_pos hs]at h1;exact⟨h1.1,(gX _ _▸h1.2).1⟩
 have hall:(a.meet b).all a.on=true:=by
  rw[oH];intro p hp;obtain⟨h1,h2⟩:=hin p hp;unfold Cv.on;rw[(h p h1).1,h2];rfl
 unfold Cv.com Cv.splitO ovS ovA;rw[hs,if_pos hall,ZC];unfold Cv.split;rw[List.any_map,<-hm]
 have hpc:∀x∈Ap a.s.o pE a.s.k a.p a.q (a.meet b),b.s.on x.1=0/\b.s.on x.2=0:=λx hx=>by
  obtain⟨k1,k2⟩:=Iy hx;constructor
  .rcases k1 with k1|k1
   .rw[k1];exact(h _ η).2
   .exact(h _ (hin _ k1).1).2
  .rcases k2 with k2|k2
   .rw[k2];exact(h _ η).2
   .exact(h _ (hin _ k2).1).2
 rw[Bool.eq_iff_iff,List.any_eq_true,List.any_eq_true];constructor
 .rintro ⟨x,hx,hv⟩;refine⟨x,hx, ?_⟩;have:=KO (a:=⟨a.s,x.1,x.2⟩) (b:=b) hs (hpc x hx).1 (hpc x hx).2;simp only at this;rw[<-this];exact hv
 .rintro ⟨x,hx,hv⟩;refine⟨x,hx, ?_⟩;have:=KO (a:=⟨a.s,x.1,x.2⟩) (b:=b) hs (hpc x hx).1 (hpc x hx).2;simp only at this;show b.cov _=true;rw[this];exact hv
theorem MG{a b:Cv}(hs:a.s.same b.s=true):a.sam b=acA pE a.s.k (a.p,a.q) b.s.k (b.p,b.q):=by
 unfold Cv.sam acA Cv.eq eqA Cv.rev;simp only;rw[JV,hs,agH];rfl
theorem aaj{c d:Cv}(hc:c.ok)(hd:d.ok)(hs:c.s.same d.s=true):ES c.s.o pE c.s.k c.p c.q d.s.k d.p d.q=true:=by
 have hs2:d.s.same c.s=true:=by rw[BG];exact hs
 have hm:=PX c.s.o pE (Subtype.val:yg->Pnt) c.s.k ⟨c.p,hc.p⟩ ⟨c.q,hc.q⟩ d.s.k ⟨d.p,hd.p⟩ ⟨d.q,hd.q⟩;rw[show ES c.s.o pE c.s.k c.p c.q d.s.k d.p d.q=_ from hm]
 have h4:∀x∈[(⟨c.p,hc.p⟩:yg),⟨c.q,hc.q⟩,⟨d.p,hd.p⟩,⟨d.q,hd.q⟩],c.s.on x.1=0:=λx hx=>by
  simp only[jA,List.not_mem_nil,or_false]at hx;rcases hx with rfl|rfl|rfl|rfl
  .exact hc.op
  .exact hc.oq
  .exact vV hs hd.s hd.p hd.op
  .exact vV hs hd.s hd.q hd.oq
 have hz:∀p q:Pnt,0<=p.c->0<=q.c->c.s.on p=0->c.s.on q=0->kH p q≠0->c.s.o p q≠0:=λp q h1 h2 h3 h4 h5 h6=>by
  have:=o_e h1 h2 h3 h4;rw[h6]at this;unfold pE at this;exact h5 (of_decide_eq_true (by rw[this];rfl))
 refine abK (acU c.s) (λx hx y hy=>o_e x.2 y.2 (h4 x hx) (h4 y hy)) ?_ ?_ (Ia hs).2
 .exact hz _ _ hc.p hc.q hc.op hc.oq hc.ne
 .exact hz _ _ hd.p hd.q (h4 ⟨d.p,hd.p⟩ η) (h4 ⟨d.q,hd.q⟩ η) hd.ne
theorem Vf{c d:Cv}(hc:c.ok)(hd:d.ok)(hs:c.s.same d.s=true):LawC c d:=by
 have hs2:d.s.same c.s=true:=by rw[BG];exact hs
 have hL:=aaj hc hd hs;have ho:=(Ia hs).1
 have h4:∀p∈[c.p,c.q,d.p,d.q],c.s.on p=0/\d.s.on p=0:=λp hp=>by
  simp only[jA,List.not_mem_nil,or_false]at hp;rcases hp with rfl|rfl|rfl|rfl
  .exact⟨hc.op,vV hs2 hc.s hc.p hc.op⟩
  .exact⟨hc.oq,vV hs2 hc.s hc.q hc.oq⟩
  .exact⟨vV hs hd.s hd.p hd.op,hd.op⟩
  .exact⟨vV hs hd.s hd.q hd.oq,hd.oq⟩
 have h4':∀p∈[d.p,d.q,c.p,c.q],d.s.on p=0/\c.s.on p=0:=λp hp=>(h4 p (by simp at hp ⊢;rcases hp with h|h|h|h<;>simp[h])).symm
 have m1:=vF hs;have m2:=vF hs2;have c1:=D5 hs h4;have c2:=D5 hs2 h4';rw[<-ho]at m2 c2
 have hin:∀p∈c.meet d,p∈[c.p,c.q,d.p,d.q]:=λp hp=>by
  unfold Cv.meet at hp;have h1:=yS.1 (wZ hp);unfold Cv.cand at h1;rw[if_pos hs]at h1;exact h1.1
 unfold ES at hL;simp only[gX,beq_iff_eq,decide_eq_true_eq,oH]at hL;obtain⟨⟨⟨⟨k1,k2⟩,k3⟩,k4⟩,k5⟩:=hL;rw[<-m1]at k2 k3 k4 k5;rw[<-m2]at k2 k3;rw[<-c1]at k1 k5;rw[<-c2]at k1
 have pin:∀x∈Ap c.s.o pE c.s.k c.p c.q (c.meet d),x.1∈[c.p,c.q,d.p,d.q]/\x.2∈[c.p,c.q,d.p,d.q]:=λx hx=>by
  obtain⟨j1,j2⟩:=Iy hx;exact⟨j1.elim (λh=>by rw[h];simp) (hin _),j2.elim (λh=>by rw[h];simp) (hin _)⟩
 have pin2:∀x∈Ap c.s.o pE d.s.k d.p d.q (c.meet d),x.1∈[c.p,c.q,d.p,d.q]/\x.2∈[c.p,c.q,d.p,d.q]:=λx hx=>by
  obtain⟨j1,j2⟩:=Iy hx;exact⟨j1.elim (λh=>by rw[h];simp) (hin _),j2.elim (λh=>by rw[h];simp) (hin _)⟩
 refine⟨k1,k2,λ_ h=>(by rw[hs]at h;cases h),λp hp=>?_,λa ha b hb=>?_, ?_⟩
 .obtain⟨⟨j1,j2⟩,j3⟩:=k3 p hp;have j4:=h4 p (hin p hp);refine⟨j1, ?_, ?_⟩
  .unfold Cv.on Cv.rc;rw[j4.1,j2];rfl
  .unfold Cv.on Cv.rc;rw[j4.2,<-ho,j3];rfl
 .unfold Cv.split at ha hb;rw[<-ho]at hb;obtain⟨x,hx,rfl⟩:=iV.1 ha;obtain⟨y,hy,rfl⟩:=iV.1 hb;obtain⟨j1,j2⟩:=k4 x hx y hy
  have h5:∀p∈[x.1,x.2,y.1,y.2],c.s.on p=0/\d.s.on p=0:=λp hp=>by
   simp only[jA,List.not_mem_nil,or_false]at hp;rcases hp with rfl|rfl|rfl|rfl
   .exact h4 _ (pin x hx).1
   .exact h4 _ (pin x hx).2
   .exact h4 _ (pin2 y hy).1
   .exact h4 _ (pin2 y hy).2
  have e1:=D5 (a:=⟨c.s,x.1,x.2⟩) (b:=⟨d.s,y.1,y.2⟩) hs h5;have e2:=MG (a:=⟨c.s,x.1,x.2⟩) (b:=⟨d.s,y.1,y.2⟩) hs;have e3:=vF (a:=⟨c.s,x.1,x.2⟩) (b:=⟨d.s,y.1,y.2⟩) hs;refine⟨by rw[e1,e2];exact j1,λq hq=>?_⟩;rw[e3]at hq;have:=j2 q hq;simpa only[Zv,gX]using this
 .rw[<-k5];unfold Cv.split;rw[<-ho,List.any_map];congr 1
  funext x
  rw[Function.comp,List.any_map];congr 1
  funext y
  exact MG (a:=⟨c.s,x.1,x.2⟩) (b:=⟨d.s,y.1,y.2⟩) hs
theorem cover{o:Pnt->Pnt->Int}{k:Knd}{f t:Pnt}{l:List Pnt}(hl:l.length<=2)(hp:∀p∈l,0<=p.c){q:Pnt}(hq:q∈l):(D9 o pE k f t l).any (λx=>pE q x)=true:=by
 rcases Iu (o:=o) (e:=pE) (k:=k) (f:=f) (t:=t) hl with⟨h,_⟩|⟨p,h,e⟩|⟨p,r,h,e⟩
 .rw[h]at hq;cases hq
 .rw[h]at hq hp;rw[e,pI.1 hq];simp[Jp (hp p η)]
 .rw[h]at hq hp;have h1:=hp p η;have h2:=hp r η;simp only[jA,List.not_mem_nil,or_false]at hq;have s1:=Jp h1;have s2:=Jp h2;have s3:=Y5 h1 h2;rcases e with⟨g,e⟩|⟨g,e⟩|⟨g,e⟩|⟨g,e⟩<;>rw[e]<;>rcases hq with rfl|rfl<;>simp[s1,s2,g]<;>simp_all
theorem Ve{o u:Pnt->Pnt->Int}{k j:Knd}{f t g s:Pnt}{l:List Pnt}(hl:l.length<=2)(hp:∀p∈l,0<=p.c):(D9 o pE k f t l).length=(D9 u pE j g s l).length/\(D9 o pE k f t l).length<=2:=by
 rcases Iu (o:=o) (e:=pE) (k:=k) (f:=f) (t:=t) hl with⟨h,e⟩|⟨p,h,e⟩|⟨p,r,h,e⟩
 .rw[e];subst h;exact⟨rfl,η⟩
 .rw[e];subst h;exact⟨rfl,η⟩
 .rcases Iu (o:=u) (e:=pE) (k:=j) (f:=g) (t:=s) hl with⟨h',e'⟩|⟨p',h',e'⟩|⟨p',r',h',e'⟩
  .rw[h]at h';cases h'
  .rw[h]at h';cases h'
  .rw[h]at h' hp;cases h';have s3:=Y5 (hp p η) (hp r η);rcases e with⟨g1,e⟩|⟨g1,e⟩|⟨g1,e⟩|⟨g1,e⟩<;>rcases e' with⟨g2,e'⟩|⟨g2,e'⟩|⟨g2,e'⟩|⟨g2,e'⟩<;>rw[e,e']<;>simp<;>simp_all
theorem PY{c:Cv}(hc:c.ok){p q:Pnt}(hp:0<=p.c)(hq:0<=q.c)(op:c.s.on p=0)(oq:c.s.on q=0){l:List Pnt}(hl:l=[]\/l=[p]\/l=[q]\/l=[p,q]\/l=[q,p])(hr:∀x∈l,c.rc x=true){a:Cv}(ha:a∈c.split l){x:Pnt}(hx:x=p\/x=q)(hax:a.rc x=true):
 c.rc x=true/\(l.any (λy=>pE x y)=true->(pE x a.p||pE x a.q)=true):=by
 unfold Cv.split at ha;obtain⟨y,hy,rfl⟩:=iV.1 ha
 obtain⟨s,hs,hsl⟩:∃s∈subs2,l=s.map (f4 c.p c.q p q):=by
  rcases hl with h|h|h|h|h
  .exact⟨[],by simp[subs2],h⟩
  .exact⟨[2],by simp[subs2],h⟩
  .exact⟨[3],by simp[subs2],h⟩
  .exact⟨[2,3],by simp[subs2],h⟩
  .exact⟨[3,2],by simp[subs2],h⟩
 have h4:∀z∈[(⟨c.p,hc.p⟩:yg),⟨c.q,hc.q⟩,⟨p,hp⟩,⟨q,hq⟩],c.s.on z.1=0:=λz hz=>by
  simp only[jA,List.not_mem_nil,or_false]at hz;rcases hz with rfl|rfl|rfl|rfl
  .exact hc.op
  .exact hc.oq
  .exact op
  .exact oq
 have hz:c.s.o c.p c.q≠0:=λh6=>by
  have:=o_e hc.p hc.q hc.op hc.oq;rw[h6]at this;unfold pE at this;exact hc.ne (of_decide_eq_true (by rw[this];rfl))
 have hval:∀i,(f4 (⟨c.p,hc.p⟩:yg) ⟨c.q,hc.q⟩ ⟨p,hp⟩ ⟨q,hq⟩ i).1=f4 c.p c.q p q i:=λi=>by
  match i with
  |0=>rfl
  |1=>rfl
  |2=>rfl
  |3=>rfl
 have hsv:(s.map (f4 (⟨c.p,hc.p⟩:yg) ⟨c.q,hc.q⟩ ⟨p,hp⟩ ⟨q,hq⟩)).map Subtype.val=l:=by
  rw[hsl,List.map_map];exact List.map_congr_left λi _=>hval i
 have hD:=aan (o:=λa b:yg=>c.s.o a.1 b.1) (e:=λa b:yg=>pE a.1 b.1) (acU c.s) (f:=⟨c.p,hc.p⟩) (t:=⟨c.q,hc.q⟩) (p:=⟨p,hp⟩) (q:=⟨q,hq⟩) (λx hx y hy=>o_e x.2 y.2 (h4 x hx) (h4 y hy)) hz c.s.k hs (λz hz=>by
  refine hr z.1 ?_;rw[<-hsv]
  exact List.mem_map_of_mem hz)
 have hm:=KW c.s.o pE (Subtype.val:yg->Pnt) c.s.k ⟨c.p,hc.p⟩ ⟨c.q,hc.q⟩ [⟨p,hp⟩,⟨q,hq⟩] (s.map (f4 (⟨c.p,hc.p⟩:yg) ⟨c.q,hc.q⟩ ⟨p,hp⟩ ⟨q,hq⟩));rw[hD,hsv]at hm;unfold Nc at hm;simp only[oH]at hm;have h1:=hm y hy x (by rcases hx with rfl|rfl<;>simp);have hax':SG c.s.o c.s.k y.1 y.2 x=true:=hax;rw[hax']at h1;simp only[Bool.not_true,eX,gX,Zv]at h1;refine⟨h1.1,λh=>?_⟩;rcases h1.2 with h2|h2
 .rw[h]at h2;cases h2
 .rw[Zv];exact h2
theorem Xl{c d:Cv}(hc:c.ok)(hd:d.ok)(hs:c.s.same d.s=false):LawC c d:=by
 have hs2:d.s.same c.s=false:=by rw[BG];exact hs
 obtain⟨L,hL⟩:∃L,L=(rC c.s d.s).filter λp=>c.rc p&&d.rc p:=⟨_,rfl⟩
 have m1:c.meet d=D9 c.s.o pE c.s.k c.p c.q L:=by
  unfold Cv.meet Cv.cand;rw[if_neg (by rw[hs];decide),hL]
 have m2:d.meet c=D9 d.s.o pE d.s.k d.p d.q L:=by
  unfold Cv.meet Cv.cand;rw[if_neg (by rw[hs2];decide),hL,aaC d.s c.s];congr 1;exact List.filter_congr λp _=>Bool.and_comm _ _
 have hl2:L.length<=2:=by rw[hL];exact fZ (List.length_filter_le _ _) (GU _ _)
 have hLp:∀p∈L,0<=p.c/\c.s.on p=0/\d.s.on p=0/\c.rc p=true/\d.rc p=true:=λp hp=>by
  rw[hL]at hp;obtain⟨h1,h2⟩:=yS.1 hp;obtain⟨h3,h4,h5⟩:=Vk hc.s hd.s h1;rw[gX]at h2;exact⟨h3,h4,h5,h2.1,h2.2⟩
 have c1:c.com d=false:=by unfold Cv.com;rw[hs,Bool.false_and]
 have c2:d.com c=false:=by unfold Cv.com;rw[hs2,Bool.false_and]
 have hsam:∀a b:Cv,a.s=c.s->b.s=d.s->a.com b=false/\a.sam b=false:=λa b ha hb=>by
  unfold Cv.com Cv.sam Cv.eq Cv.rev;simp only;rw[JV,ha,hb,hs];simp
 refine⟨by rw[c1,c2],by rw[m1,m2];exact(Ve hl2 λp hp=>(hLp p hp).1).1,λ_ _=>by rw[m1];exact(Ve (u:=c.s.o) (j:=c.s.k) (g:=c.p) (s:=c.q) hl2 λp hp=>(hLp p hp).1).2,λp hp=>?_,λa ha b hb=>?_, ?_⟩
 .rw[m1]at hp;have hp:=wZ hp;obtain⟨h1,h2,h3,h4,h5⟩:=hLp p hp;refine⟨by rw[m2];exact cover hl2 (λp hp=>(hLp p hp).1) hp, ?_, ?_⟩
  .unfold Cv.on;rw[h2,h4];rfl
  .unfold Cv.on;rw[h3,h5];rfl
 .have a_s:a.s=c.s:=by unfold Cv.split at ha;obtain⟨y,_,rfl⟩:=iV.1 ha;rfl
  have bs:b.s=d.s:=by unfold Cv.split at hb;obtain⟨y,_,rfl⟩:=iV.1 hb;rfl
  obtain⟨g1,g2⟩:=hsam a b a_s bs;refine⟨by rw[g1,g2],λq hq=>?_⟩;unfold Cv.meet Cv.cand at hq;rw[a_s,bs,if_neg (by rw[hs];decide)]at hq;obtain⟨q1,q2⟩:=yS.1 (wZ hq);rw[gX]at q2
  obtain⟨p1,p2,hP,hPs⟩:∃p1 p2,(q=p1\/q=p2)/\(rC c.s d.s=[p1]/\p2=p1\/rC c.s d.s=[p1,p2]):=by
   have hlen:=GU c.s d.s
   match hS:rC c.s d.s,hlen,q1 with
   |[x],_,q1=>exact⟨x,x,.inl (pI.1 q1),.inl ⟨rfl,rfl⟩⟩
   |[x,y],_,q1=>exact⟨x,y,by simpa using q1,.inr rfl⟩
  have hon:∀x,x=p1\/x=p2->0<=x.c/\c.s.on x=0/\d.s.on x=0:=λx hx=>by
   refine Vk hc.s hd.s ?_;rcases hPs with⟨h,rfl⟩|h<;>rw[h]<;>rcases hx with rfl|rfl<;>simp
  have hl:c.meet d=[]\/c.meet d=[p1]\/c.meet d=[p2]\/c.meet d=[p1,p2]\/c.meet d=[p2,p1]:=by
   have hLc:L=[]\/L=[p1]\/L=[p2]\/L=[p1,p2]:=by
    rcases hPs with⟨h,_⟩|h
    .rw[hL,h];simp only[List.filter_cons,List.filter_nil];split<;>simp
    .rw[hL,h];simp only[List.filter_cons,List.filter_nil];split<;>split<;>simp
   rw[m1];rcases hLc with h|h|h|h
   .rw[h];exact .inl rfl
   .rw[h];exact .inr (.inl rfl)
   .rw[h];exact .inr (.inr (.inl rfl))
   .rcases Iu (o:=c.s.o) (e:=pE) (k:=c.s.k) (f:=c.p) (t:=c.q) hl2 with⟨h',_⟩|⟨_,h',_⟩|⟨x,y,h',e⟩
    .rw[h]at h';cases h'
    .rw[h]at h';cases h'
    .rw[h]at h';cases h';rcases e with⟨_,e⟩|⟨_,e⟩|⟨_,e⟩|⟨_,e⟩<;>rw[e]<;>simp
  have hrc:∀x∈c.meet d,c.rc x=true/\d.rc x=true:=λx hx=>by
   rw[m1]at hx;exact(hLp x (wZ hx)).2.2.2
  obtain⟨o1,o2,o3⟩:=hon p1 (.inl rfl);obtain⟨o4,o5,o6⟩:=hon p2 (.inr rfl);obtain⟨r1,r2⟩:=PY hc o1 o4 o2 o5 hl (λx hx=>(hrc x hx).1) ha hP (by have:=q2.1;unfold Cv.rc at this ⊢;exact this);obtain⟨r3,r4⟩:=PY hd o1 o4 o3 o6 hl (λx hx=>(hrc x hx).2) hb hP (by have:=q2.2;unfold Cv.rc at this ⊢;exact this)
  have hqL:q∈L:=by
   rw[hL];exact yS.2 ⟨q1,by rw[r1,r3];rfl⟩
  have hcv:(c.meet d).any (λy=>pE q y)=true:=by rw[m1];exact cover hl2 (λp hp=>(hLp p hp).1) hqL
  exact⟨r2 hcv,r4 hcv⟩
 .rw[c1,JX];intro a ha;have a_s:a.s=c.s:=by unfold Cv.split at ha;obtain⟨y,_,rfl⟩:=iV.1 ha;rfl
  rw[Bool.not_eq_true,JX];intro b hb;have bs:b.s=d.s:=by unfold Cv.split at hb;obtain⟨y,_,rfl⟩:=iV.1 hb;rfl
  rw[(hsam a b a_s bs).2]
  decide
theorem adP{c d:Cv}(hc:c.ok)(hd:d.ok):LawC c d:=by
 cases h:c.s.same d.s with
 |true=>exact Vf hc hd h
 |false=>exact Xl hc hd h
def hb(q:Rat)(h:Nat):Prop:=q.num.natAbs<2^h/\q.den<2^h
class HbB (q:Rat) (h:outParam Nat):Prop where
 h:hb q h
theorem jf{q:Rat}{m n:Nat}(h:hb q m)(k:m<=n):hb q n:=⟨Ea h.1 (Gi ψ k),Ea h.2 (Gi ψ k)⟩
theorem hbb{q:Rat}{n N:Nat}[k:HbB q n](h:n<=N):hb q N:=jf k.h h
theorem ni{q:Rat}{n:Nat}(h:hb q n):hb (-q) n:=⟨by rw[Rat.neg_num,Int.natAbs_neg];exact h.1,by rw[Rat.neg_den];exact h.2⟩
theorem Ic{n d:Int}(hd:d≠0){h:Nat}(h1:n.natAbs<2^h)(h2:d.natAbs<2^h):hb ((n:Rat)/d) h:=by
 have key:∀{n d:Int},0<d->n.natAbs<2^h->d.natAbs<2^h->hb ((n:Rat)/d) h:=by
  intro n d hd h1 h2;obtain⟨e1,e2⟩:=sJ (n:=n) hd;have hg:0<Nat.gcd n.natAbs d.natAbs:=Nat.gcd_pos_of_pos_right _ ω
  have a1:((n:Rat)/d).num.natAbs<=n.natAbs:=by
   rw[e1,Yg _ ω];have:(Nat.gcd n.natAbs d.natAbs:Int) ∣ n:=Int.ofNat_dvd_left.2 (Nat.gcd_dvd_left _ _);rw[Int.natAbs_ediv_of_dvd this];exact OU _ _
  have a2:((((n:Rat)/d).den:Nat):Int).natAbs<=d.natAbs:=by
   rw[e2,Yg _ ω];have:(Nat.gcd n.natAbs d.natAbs:Int) ∣ d:=Int.ofNat_dvd_left.2 (Nat.gcd_dvd_right _ _);rw[Int.natAbs_ediv_of_dvd this];exact OU _ _
  rw[uP]at a2;exact⟨ω,ω⟩
 rcases Int.lt_or_gt_of_ne hd with g|g
 .have e:((-n:Int):Rat)/((-d:Int):Rat)=(n:Rat)/d:=by
   have:(d:Rat)≠0:=by intro h0;have:=(Rat.intCast_inj (a:=d) (b:=0)).1 (by simpa using h0);omega
   rw[Rat.intCast_neg,Rat.intCast_neg];grind
  have:=key (n:=-n) (d:=-d) ω (by rw[Int.natAbs_neg];exact h1) (by rw[Int.natAbs_neg];exact h2)
  rwa [e]at this
 .exact key g h1 h2
theorem Ig{a b:Rat}{m n:Nat}(h:hb a m)(k:hb b n):hb (a*b) (m+n):=by
 rw[<-mul_div];refine Ic (bV (ah a) (ah b)) ?_ ?_
 .rw[Int.natAbs_mul,Nat.pow_add];exact Nat.mul_lt_mul'' h.1 k.1
 .rw[Int.natAbs_mul,uP,uP,Nat.pow_add];exact Nat.mul_lt_mul'' h.2 k.2
theorem D8{a b:Rat}{m n:Nat}(h:hb a m)(k:hb b n):hb (a+b) (m+n+1):=by
 rw[<-add_div];have h1:=Nat.mul_lt_mul'' h.1 k.2;have h2:=Nat.mul_lt_mul'' k.1 h.2;have h3:=Nat.mul_lt_mul'' h.2 k.2;rw[<-Nat.pow_add]at h1 h2 h3;have:n+m=m+n:=Nat.add_comm _ _;rw[this]at h2;have e:=EU 2 (m+n);refine Ic (bV (ah a) (ah b)) ?_ ?_
 .refine Nat.lt_of_le_of_lt (Int.natAbs_add_le _ _) ?_;rw[Int.natAbs_mul,Int.natAbs_mul,uP,uP];omega
 .rw[Int.natAbs_mul,uP,uP];omega
theorem ad2{a b:Rat}{m n:Nat}(h:hb a m)(k:hb b n):hb (a-b) (m+n+1):=by rw[Rat.sub_eq_add_neg];exact D8 h (ni k)
theorem Di{a:Rat}{m:Nat}(h:hb a m):1<=m:=by
 have:=h.2;have h2:=a.den_nz;cases m with
 |zero=>simp at this;omega
 |succ n=>omega
theorem ad7{a b:Rat}{m n:Nat}(h:hb a m)(k:hb b n):hb (a/b) (m+n):=by
 by_cases hz:b=0
 .subst hz;have:a/0=0:=by rw[Rat.div_def,Rat.inv_zero,Rat.mul_zero]
  rw[this];have:=Di h;exact jf (⟨by decide +kernel,by decide +kernel⟩:hb 0 1) ω
 .rw[<-G5 a b hz];have hn:b.num≠0:=λh0=>XG hz (by rw[h0];rfl)
  refine Ic (bV (ah a) hn) ?_ ?_
  .rw[Int.natAbs_mul,uP,Nat.pow_add];exact Nat.mul_lt_mul'' h.1 k.2
  .rw[Int.natAbs_mul,uP,Nat.pow_add];exact Nat.mul_lt_mul'' h.2 k.1
theorem aeB(k:Nat):2^(29*k)<=1000000000^k:=by
 rw[Nat.pow_mul];exact Nat.pow_le_pow_left ψ k
theorem dM{q:Rat}{h:Nat}(k:hb q h):rz q<=2*(h/29+1):=by
 have hh:2^h<=1000000000^(h/29+1):=fZ (Gi ψ ω) (aeB (h/29+1));have h1:=F8 (x:=q.num) (Ea k.1 hh);have h2:=F8 (x:=(q.den:Int)) (by rw[uP];exact Ea k.2 hh);unfold rz;omega
theorem WM(n:Int){h:Nat}(k:n.natAbs<2^h)(k2:1<=h):hb (n:Rat) h:=by
 have h2:2<=2^h:=by
  have:=Gi (show 0<2 by decide) k2;simpa using this
 exact⟨by rw[Rat.num_intCast];exact k,by rw[Rat.den_intCast];omega⟩
instance{a b:Rat}{m n:Nat}[h:HbB a m][k:HbB b n]:HbB (a+b) (m+n+1):=⟨D8 h.h k.h⟩
instance{a b:Rat}{m n:Nat}[h:HbB a m][k:HbB b n]:HbB (a-b) (m+n+1):=⟨ad2 h.h k.h⟩
instance{a b:Rat}{m n:Nat}[h:HbB a m][k:HbB b n]:HbB (a*b) (m+n):=⟨Ig h.h k.h⟩
instance{a b:Rat}{m n:Nat}[h:HbB a m][k:HbB b n]:HbB (a / b) (m+n):=⟨ad7 h.h k.h⟩
instance{a:Rat}{m:Nat}[h:HbB a m]:HbB (-a) m:=⟨ni h.h⟩
instance:HbB 2 2:=⟨by decide +kernel,by decide +kernel⟩
theorem NT{c:Rat}(h:fQ c=true){m:Nat}(k:hb c m):hb (wE c) m:=by
 obtain⟨h1,h2⟩:=rG h
 have g:∀n:Nat,iC n<=n:=λn=>by
  have h3:=(sO n).1;rcases yD (iC n)with h4|h4
  .omega
  .exact fZ (Nat.le_mul_of_pos_left _ h4) h3
 refine⟨?_, ?_⟩
 .rw[h1,uP];exact Nat.lt_of_le_of_lt (g _) k.1
 .have:wE c=wE c:=rfl;have h3:((wE c).den:Int).natAbs<=c.den:=by rw[h2,uP];exact fZ (g _) (by rw[uP];exact jg _)
  rw[uP]at h3;exact Nat.lt_of_le_of_lt h3 k.2
theorem VG{a b c:Rat}{m n k:Nat}(h1:hb a m)(h2:hb b n)(h3:hb c k):hb (dS a b c) (m+(n+k)+1):=by
 unfold dS;split
 .rename_i h;exact D8 h1 (Ig h2 (NT h h3))
 .exact jf h1 ω
theorem Ox{m:Nat}(h:1<=m):hb 0 m:=jf (⟨by decide +kernel,by decide +kernel⟩:hb 0 1) h
theorem VB{b c:Rat}{n:Nat}(h:hb b n):hb (dN b c) n:=by
 unfold dN bH;split
 .exact Ox (Di h)
 .split
  .exact Ox (Di h)
  .exact h
theorem VW{b c:Rat}{n:Nat}(h:hb c n):hb (dP b c) n:=by
 unfold dP bM;split
 .exact Ox (Di h)
 .split
  .exact Ox (Di h)
  .exact h
structure PB (p:Pnt):Prop where
 ax:rz p.ax<=5000
 bx:rz p.bx<=250
 ay:rz p.ay<=5000
 bb:rz p.bb<=250
 c:rz p.c<=5000
 nn:0<=p.c
def yZ(p:Pnt):Prop:=PB p/\okP p.bx p.bb p.c
theorem JQ{p:Pnt}(hp:0<=p.c)(X Y:Rat):cY p (jl X Y)=fP (p.ay-Y) p.bb (bC p.bb p.c):=N8 (fD hp)
theorem QY{p:Pnt}(hp:0<=p.c)(X Y:Rat):cX p (jl X Y)=fP (p.ax-X) p.bx (bC p.bx p.c):=N8 (fD hp)
theorem acM{p:Pnt}{X Y:Rat}(hp:0<=p.c)(h:0<fP (p.ay-Y) p.bb (bC p.bb p.c)):0=oG (jl X Y) p:=by
 unfold oG;rw[JQ hp,if_pos (.inl h)]
theorem acY{p:Pnt}{X Y:Rat}(hp:0<=p.c)(h:fP (p.ay-Y) p.bb (bC p.bb p.c)=0)(k:0<fP (p.ax-X) p.bx (bC p.bx p.c)):0=oG (jl X Y) p:=by
 unfold oG;rw[JQ hp,QY hp,if_pos (.inr ⟨h,k⟩)]
theorem acI{p:Pnt}{X Y:Rat}(hp:0<=p.c)(h:¬0<fP (p.ay-Y) p.bb (bC p.bb p.c))(k:¬0<fP (p.ax-X) p.bx (bC p.bx p.c)):1=oG (jl X Y) p:=by
 unfold oG;rw[JQ hp,QY hp,if_neg (λg=>g.elim h λg=>k g.2)]
theorem ads{p:Pnt}{X Y:Rat}(hp:0<=p.c)(h:¬0<fP (p.ay-Y) p.bb (bC p.bb p.c))(k:¬fP (p.ay-Y) p.bb (bC p.bb p.c)=0):1=oG (jl X Y) p:=by
 unfold oG;rw[JQ hp,QY hp,if_neg (λg=>g.elim h λg=>k g.1)]
theorem YI{p q:Pnt}(hp:0<=p.c)(hq:0<=q.c):cX p q = -1\/cX p q=0\/cX p q=1:=cX_ord.val ⟨p,hp⟩ ⟨q,hq⟩
theorem Rn{p q:Pnt}(hp:0<=p.c)(hq:0<=q.c):kH p q = -1\/kH p q=0\/kH p q=1:=pcm_ord.val ⟨p,hp⟩ ⟨q,hq⟩
theorem Qo{α:Type}(o:α->α->Int)(f p:α):Zu o f p=0\/Zu o f p=1\/Zu o f p=2:=by unfold Zu;split<;>(try split)<;>simp
theorem aax(n:Int):sgI n = -1\/sgI n=0\/sgI n=1:=by unfold sgI;omega
theorem Ja{α:Type}(o:α->α->Int)(f p q:α):LJ o f p q = -1\/LJ o f p q=0\/LJ o f p q=1:=by unfold LJ;split<;>exact aax _
def zL(o p q:Pnt):Int:=if oG o p=oG o q then(if oG o p=0 then -(cX p q)else cX p q)else if oG o q=0 then -1 else 1
def VX(o f p q:Pnt):Int:=if decide (zL o p f<0)=decide (zL o q f<0)then zL o p q else if zL o q f<0 then -1 else 1
def MX(p:Pnt):Pnt:=⟨-p.ax,-p.bx,p.ay,p.bb,p.c⟩
def Cv.od(c:Cv)(p q:Pnt):Int:=match c.s with
 |.ln _ _ _=>if 0<kH c.p c.q then -(kH p q)else kH p q
 |.ar X Y _ false=>VX (jl X Y) c.p p q
 |.ar X Y _ true=>VX (jl (-X) Y) (MX c.p) (MX p) (MX q)
def Cv.onR(c:Cv)(p:Pnt):Bool:=decide (c.s.on p=0)&&(decide (c.od c.p p<=0)&&decide (c.od p c.q<=0))
def Cv.ins(c:Cv)(x:Pnt):List Pnt->List Pnt
 |[]=>[x]
 |y::r=>if c.od y x<0 then y::c.ins x r else if pE y x=true then y::r else x::y::r
def Cv.srt(c:Cv)(l:List Pnt):List Pnt:=l.foldl (λa x=>c.ins x a) []
def Cv.prs(c:Cv):List Pnt->List Cv
 |a::b::r=>⟨c.s,a,b⟩::c.prs (b::r)
 |_=>[]
def Cv.splR(c:Cv)(l:List Pnt):List Cv:=c.prs (c.srt (c.p::c.q::l))
def nZ(x u y v k:Rat):Pnt:=if fQ k=true then jl (x+u*wE k) (y+v*wE k)else⟨x,u,y,v,k⟩
def wY(A B:Rat):Rat:=A*A+B*B
def U0(A B C X Y:Rat):Rat:=A*X+B*Y-C
def Az(A B C X Y Q:Rat):Rat:=wY A B*Q-U0 A B C X Y*U0 A B C X Y
def RU(A B C X Y:Rat):Rat:=X-U0 A B C X Y/wY A B*A
def SY(A B C X Y:Rat):Rat:=Y-U0 A B C X Y/wY A B*B
def SQ(p q:Pnt):List Pnt:=if 0<kH p q then[q,p]else[p,q]
def Hg(A B C X Y Q:Rat):List Pnt :=
 if Az A B C X Y Q<0 then[]else if Az A B C X Y Q=0 then[jl (RU A B C X Y) (SY A B C X Y)]else
  SQ (nZ (RU A B C X Y) (-(B/wY A B)) (SY A B C X Y) (-(-A/wY A B)) (Az A B C X Y Q)) (nZ (RU A B C X Y) (B/wY A B) (SY A B C X Y) (-A/wY A B) (Az A B C X Y Q))
def ccR(X Y Q U V W:Rat):List Pnt :=
 if(X=U/\Y=V)then[]else Hg (2*(U-X)) (2*(V-Y)) (lI U V W-lI X Y Q) X Y Q
def Aq:Sprt->Sprt->List Pnt
 |.ln A B C,.ln D E F=>Lc A B C D E F
 |.ln A B C,.ar X Y Q _=>Hg A B C X Y Q
 |.ar X Y Q _,.ln A B C=>Hg A B C X Y Q
 |.ar X Y Q _,.ar U V W _=>ccR X Y Q U V W
def Cv.candR(c d:Cv):List Pnt:=if c.s.same d.s=true then[c.p,c.q,d.p,d.q]else Aq c.s d.s
def Cv.meetR(c d:Cv):List Pnt:=c.srt ((c.candR d).filter λp=>c.onR p&&d.onR p)
theorem agW{p q:Pnt}(hp:0<=p.c)(hq:0<=q.c):cX (MX p) (MX q) = -cX p q:=by
 refine(LY (p:=MX p) (q:=MX q) hp hq).uniq ((LY hp hq).neg.cg λn=>?_);unfold pX MX
 grind
theorem zY{p q:Pnt}(h:kH p q=0):cX p q=0/\cY p q=0:=by
 unfold kH at h;split at h
 .exact⟨ξ,h⟩
 .exact⟨h,by contradiction⟩
theorem afR{p q:Pnt}(hp:0<=p.c)(hq:0<=q.c)(h:kH p q=0):kH (MX p) (MX q)=0:=by
 obtain⟨h1,h2⟩:=zY h;unfold kH;rw[agW hp hq,h1,if_pos ω];exact h2
theorem XF{o p q:Pnt}(ho:0<=o.c)(hp:0<=p.c)(hq:0<=q.c)(h:kH p q=0):oG o p=oG o q:=by
 obtain⟨h1,h2⟩:=zY h;have e1:=(cX_ord.cong (a:=⟨p,hp⟩) (b:=⟨q,hq⟩) h1 ⟨o,ho⟩).1;have e2:=(cY_ord.cong (a:=⟨p,hp⟩) (b:=⟨q,hq⟩) h2 ⟨o,ho⟩).1;replace e1:cX p o=cX q o:=e1;replace e2:cY p o=cY q o:=e2;unfold oG;rw[e1,e2]
theorem abk{o f p q:Pnt}(ho:0<=o.c)(hf:0<=f.c)(hp:0<=p.c)(hq:0<=q.c)(h:kH p q=0):zL o p f=zL o q f/\zL o p q=0:=by
 have e:=XF ho hp hq h;obtain⟨h1,h2⟩:=zY h;have e1:=(cX_ord.cong (a:=⟨p,hp⟩) (b:=⟨q,hq⟩) h1 ⟨f,hf⟩).1;replace e1:cX p f=cX q f:=e1;constructor
 .unfold zL;rw[e,e1]
 .unfold zL;rw[e,if_pos rfl,h1];simp
theorem PE{o f p q:Pnt}(ho:0<=o.c)(hf:0<=f.c)(hp:0<=p.c)(hq:0<=q.c)(h:kH p q=0):VX o f p q=0:=by
 obtain⟨h1,h2⟩:=abk ho hf hp hq h;unfold VX;rw[h1,if_pos rfl,h2]
theorem ac9{c:Cv}(hc:0<=c.p.c){p q:Pnt}(hp:0<=p.c)(hq:0<=q.c)(h:kH p q=0):c.od p q=0:=by
 obtain⟨s,a,b⟩:=c
 match s with
 |.ln _ _ _=>show(if 0<kH a b then -(kH p q)else kH p q)=0;rw[h];split<;>rfl
 |.ar X Y _ false=>exact PE (pF _ _) hc hp hq h
 |.ar X Y _ true=>exact PE (pF _ _) (p:=MX p) (q:=MX q) hc hp hq (afR hp hq h)
def NbP:List Pnt->Prop
 |a::b::r=>kH a b≠0/\NbP (b::r)
 |_=>True
theorem G8{p q:Pnt}(hp:0<=p.c)(hq:0<=q.c):kH q p = -kH p q:=pcm_ord.anti ⟨p,hp⟩ ⟨q,hq⟩
theorem Ed{c:Cv}{x y:Pnt}:∀{l:List Pnt},y∈c.ins x l->y=x\/y∈l
 |[],h => .inl (pI.1 h)
 |z::r,h=>by
  unfold Cv.ins at h;split at h
  .rcases jA.1 h with h|h
   .exact .inr (jA.2 (.inl h))
   .exact(Ed h).imp id (vX _)
  .split at h
   .exact .inr h
   .exact(jA.1 h)
theorem YE{c:Cv}(hc:0<=c.p.c){x:Pnt}(hx:0<=x.c):∀{l:List Pnt},(∀y∈l,0<=y.c)->NbP l->NbP (c.ins x l)
 |[],_,_=>trivial
 |[y],hl,_=>by
  have hy:=hl y List.mem_cons_self;unfold Cv.ins;split
  .exact⟨λg=>by have:=ac9 hc hy hx g;omega,trivial⟩
  .split
   .trivial
   .rename_i h;refine⟨λg=>h ?_,trivial⟩;have:=G8 hx hy;exact decide_eq_true ω
 |y::z::r,hl,hn=>by
  have hy:=hl y List.mem_cons_self;have hz:=hl z η;have ih:=YE (c:=c) hc hx (l:=z::r) (λw hw=>hl w (vX _ hw)) hn.2;unfold Cv.ins;split
  .rename_i h1;unfold Cv.ins at ih ⊢;split
   .rename_i h2;rw[if_pos h2]at ih;exact⟨hn.1,ih⟩
   .rename_i h2;rw[if_neg h2]at ih;split
    .exact⟨hn.1,hn.2⟩
    .rename_i h3;rw[if_neg h3]at ih;exact⟨λg=>by have:=ac9 hc hy hx g;omega,ih⟩
  .split
   .exact hn
   .rename_i h;refine⟨λg=>h ?_,hn⟩;have:=G8 hx hy;exact decide_eq_true ω
theorem Ib{c:Cv}{P:Pnt->Prop}{l:List Pnt}(h:∀p∈l,P p):∀p∈c.srt l,P p:=by
 have:∀(l a:List Pnt),(∀p∈l,P p)->(∀p∈a,P p)->∀p∈l.foldl (λa x=>c.ins x a) a,P p:=by
  intro l;induction l with
  |nil=>intro a _ h;exact h
  |cons x r ih =>
   intro a hl ha;refine ih _ (λp hp=>hl p (vX _ hp)) λp hp=>?_
   rcases Ed hp with h|h
   .rw[h];exact hl x List.mem_cons_self
   .exact ha p h
 exact this l [] h (λp hp=>nomatch hp)
theorem ae7{c:Cv}(hc:0<=c.p.c){l:List Pnt}(h:∀p∈l,0<=p.c):NbP (c.srt l):=by
 have:∀(l a:List Pnt),(∀p∈l,0<=p.c)->(∀p∈a,0<=p.c)->NbP a->NbP (l.foldl (λa x=>c.ins x a) a):=by
  intro l;induction l with
  |nil=>intro a _ _ h;exact h
  |cons x r ih =>
   intro a hl ha hn;refine ih _ (λp hp=>hl p (vX _ hp)) (λp hp=>?_) (YE hc (hl x List.mem_cons_self) ha hn);rcases Ed hp with h|h
   .rw[h];exact hl x List.mem_cons_self
   .exact ha p h
 exact this l [] h (λp hp=>nomatch hp) trivial
theorem PU{c:Cv}{a:Cv}:∀{l:List Pnt},a∈c.prs l->NbP l->a.s=c.s/\a.p∈l/\a.q∈l/\kH a.p a.q≠0
 |[],h,_=>nomatch h
 |[x],h,_=>nomatch h
 |x::y::r,h,hn=>by
  rcases jA.1 h with h|h
  .subst h;exact⟨rfl,List.mem_cons_self,η,hn.1⟩
  .obtain⟨h1,h2,h3,h4⟩:=PU h hn.2;exact⟨h1,vX _ h2,vX _ h3,h4⟩
theorem Jr{c:Cv}{x:Pnt}:∀{l:List Pnt},l.length<=(c.ins x l).length/\(c.ins x l).length<=l.length+1
 |[]=>by simp[Cv.ins]
 |z::r=>by
  have:=Jr (c:=c) (x:=x) (l:=r);unfold Cv.ins;split
  .simp;omega
  .split<;>simp
theorem BA{c:Cv}(l:List Pnt):(c.srt l).length<=l.length:=by
 have:∀(l a:List Pnt),(l.foldl (λa x=>c.ins x a) a).length<=a.length+l.length:=by
  intro l;induction l with
  |nil=>intro a;simp
  |cons x r ih=>intro a;have:=ih (c.ins x a);have:=Jr (c:=c) (x:=x) (l:=a);simp only[Na,ji];omega
 have h:=this l [];simp only[mg,uY]at h;exact h
theorem acv{c:Cv}(hp:0<=c.p.c)(hq:0<=c.q.c)(hn:kH c.p c.q≠0)(l:List Pnt):2<=(c.srt (c.p::c.q::l)).length:=by
 have h1:∀(l a:List Pnt),a.length<=(l.foldl (λa x=>c.ins x a) a).length:=by
  intro l;induction l with
  |nil=>intro a;simp
  |cons x r ih=>intro a;have:=ih (c.ins x a);have:=Jr (c:=c) (x:=x) (l:=a);simp only[Na];omega
 have h2:(c.ins c.q (c.ins c.p [])).length=2:=by
  simp only[Cv.ins];split
  .rfl
  .split
   .rename_i g;exact absurd (of_decide_eq_true g) hn
   .rfl
 have:=h1 l (c.ins c.q (c.ins c.p []));unfold Cv.srt;simp only[Na];omega
theorem AP{c:Cv}:∀(l:List Pnt),(c.prs l).length=l.length-1
 |[]=>rfl
 |[x]=>rfl
 |x::y::r=>by have:=AP (c:=c) (y::r);simp only[Cv.prs,ji]at *;omega
end Go.Sw
namespace Go.Proofs.YtdpkjhnfklkkjaaGreat
open Go Go.RowKit Go.Sw Go.Proofs.Tryz
set_option maxRecDepth 100000
set_option maxHeartbeats 16000000
set_option synthInstance.maxSize 4000
set_option synthInstance.maxHeartbeats 400000
@[reducible] def aY(p:Pnt):List Cell:=[zs p.ax.num,zl p.ax.num,zs p.ax.den,zl p.ax.den,zs p.bx.num,zl p.bx.num,zs p.bx.den,zl p.bx.den,zs p.ay.num,zl p.ay.num,zs p.ay.den,zl p.ay.den,zs p.bb.num,zl p.bb.num,zs p.bb.den,zl p.bb.den,zs p.c.num,zl p.c.num,zs p.c.den,zl p.c.den]
theorem acR{p q:Pnt}(h:¬cX p q=0):cX p q=kH p q:=by unfold kH;rw[if_neg h]
theorem zY{p q:Pnt}(h:cX p q=0):cY p q=kH p q:=by unfold kH;rw[if_pos h]
instance an4:DenI prog 132 [] (True) (R 0):=⟨λhp=>by
 refine aS func132 rfl ?_
 all_goals(repeat'((try(conv=>whnf));first
  |refine ak ?_ ?_|apply zaa))
 all_goals(try apply zab)
 all_goals first
  |rfl|omega⟩
instance an2(a b c:Rat):DenI prog 128 [R a,R b,R c] (rz a<=4000000/\rz b<=4000000/\rz c<=4000000) (Q3 a b (bC b c)):=⟨λhp=>by
 have:RzB a 4000000:=⟨hp.1⟩
 have:RzB b 4000000:=⟨hp.2.1⟩
 have:RzB c 4000000:=⟨hp.2.2⟩
 all_goals refine aS func128 rfl ?_
 all_goals(repeat'((try(conv=>whnf));first
  |refine aC ?_|(with_reducible refine aO (λ_=>?_) (λ_=>?_))|apply zaa))
 all_goals(try simp only[bn]at *)
 all_goals first
  |exact zah⟩
instance g_x(p:Pnt):DenI prog 62 [.agg (aY p)] (PB p) (Q3 p.ax p.bx (bC p.bx p.c)):=⟨λhp=>by
 have:RzB p.ax 5000:=⟨hp.ax⟩
 have:RzB p.bx 250:=⟨hp.bx⟩
 have:RzB p.ay 5000:=⟨hp.ay⟩
 have:RzB p.bb 250:=⟨hp.bb⟩
 have:RzB p.c 5000:=⟨hp.c⟩
 all_goals refine aS func62 rfl ?_
 all_goals(repeat'((try(conv=>whnf));first
  |refine ak ?_ ?_|apply zaa))
 all_goals(try apply zab)
 all_goals first
  |rfl|exact zaf⟩
instance g_y(p:Pnt):DenI prog 88 [.agg (aY p)] (PB p) (Q3 p.ay p.bb (bC p.bb p.c)):=⟨λhp=>by
 have:RzB p.ax 5000:=⟨hp.ax⟩
 have:RzB p.bx 250:=⟨hp.bx⟩
 have:RzB p.ay 5000:=⟨hp.ay⟩
 have:RzB p.bb 250:=⟨hp.bb⟩
 have:RzB p.c 5000:=⟨hp.c⟩
 all_goals refine aS func88 rfl ?_
 all_goals(repeat'((try(conv=>whnf));first
  |refine ak ?_ ?_|apply zaa))
 all_goals(try apply zab)
 all_goals first
  |rfl|exact zaf⟩
instance ank(p q:Pnt):DenI prog 38 [.agg (aY p),.agg (aY q)] (PB p/\PB q) (.int .i64 (kH p q)):=⟨λhp=>by
 obtain⟨hp,hq⟩:=hp;have:RzB p.ax 5000:=⟨hp.ax⟩
 have:RzB p.bx 250:=⟨hp.bx⟩
 have:RzB p.ay 5000:=⟨hp.ay⟩
 have:RzB p.bb 250:=⟨hp.bb⟩
 have:RzB p.c 5000:=⟨hp.c⟩
 have:RzB q.ax 5000:=⟨hq.ax⟩
 have:RzB q.bx 250:=⟨hq.bx⟩
 have:RzB q.ay 5000:=⟨hq.ay⟩
 have:RzB q.bb 250:=⟨hq.bb⟩
 have:RzB q.c 5000:=⟨hq.c⟩
 all_goals refine aS func38 rfl ?_
 all_goals(repeat'((try(conv=>whnf));first
  |refine ak ?_ ?_|(with_reducible refine aP (λ_=>?_) (λ_=>?_))|refine zac ζ ?_|apply zaa))
 all_goals(try apply zab)
 all_goals first
  |(refine⟨bF ω,bF ω,bF ω,bF ω,bF ω,bF ω,fD hp.nn,fD hq.nn⟩)|exact iE (acR ξ)|exact iE (zY ξ)|exact zaf⟩
instance an7(p q:Pnt):DenI prog 13 [.agg (aY p),.agg (aY q)] (PB p/\PB q) (.bool (pE p q)):=⟨λhp=>by
 obtain⟨hp,hq⟩:=hp;have:RzB p.ax 5000:=⟨hp.ax⟩
 have:RzB p.bx 250:=⟨hp.bx⟩
 have:RzB p.ay 5000:=⟨hp.ay⟩
 have:RzB p.bb 250:=⟨hp.bb⟩
 have:RzB p.c 5000:=⟨hp.c⟩
 have:RzB q.ax 5000:=⟨hq.ax⟩
 have:RzB q.bx 250:=⟨hq.bx⟩
 have:RzB q.ay 5000:=⟨hq.ay⟩
 have:RzB q.bb 250:=⟨hq.bb⟩
 have:RzB q.c 5000:=⟨hq.c⟩
 all_goals refine aS func13 rfl ?_
 all_goals(repeat'((try(conv=>whnf));first
  |refine ak ?_ ?_|apply zaa))
 all_goals(try apply zab)
 all_goals first
  |rfl|exact⟨hp,hq⟩⟩
instance an6(a b:Rat):DenI prog 65 [Q2 a b] (rz a<=4000000/\rz b<=4000000) (.agg (aY (jl a b))):=⟨λhp=>by
 have:RzB a 4000000:=⟨hp.1⟩
 have:RzB b 4000000:=⟨hp.2⟩
 all_goals refine aS func65 rfl ?_
 all_goals(repeat'((try(conv=>whnf));first
  |refine aC ?_|refine zac ζ ?_|apply zaa))
 all_goals first
  |rfl⟩
instance an8(p:Pnt):DenI prog 101 [.agg (aY p)] (PB p) (Q3 p.ax p.bx (bC p.bx p.c)):=⟨λhp=>by
 have:RzB p.ax 5000:=⟨hp.ax⟩
 have:RzB p.bx 250:=⟨hp.bx⟩
 have:RzB p.ay 5000:=⟨hp.ay⟩
 have:RzB p.bb 250:=⟨hp.bb⟩
 have:RzB p.c 5000:=⟨hp.c⟩
 all_goals refine aS func101 rfl ?_
 all_goals(repeat'((try(conv=>whnf));first
  |refine ak ?_ ?_|apply zaa))
 all_goals(try apply zab)
 all_goals first
  |rfl|exact zaf⟩
instance aoj(p:Pnt):DenI prog 102 [.agg (aY p)] (PB p) (Q3 p.ay p.bb (bC p.bb p.c)):=⟨λhp=>by
 have:RzB p.ax 5000:=⟨hp.ax⟩
 have:RzB p.bx 250:=⟨hp.bx⟩
 have:RzB p.ay 5000:=⟨hp.ay⟩
 have:RzB p.bb 250:=⟨hp.bb⟩
 have:RzB p.c 5000:=⟨hp.c⟩
 all_goals refine aS func102 rfl ?_
 all_goals(repeat'((try(conv=>whnf));first
  |refine ak ?_ ?_|apply zaa))
 all_goals(try apply zab)
 all_goals first
  |rfl|exact zaf⟩
instance ale(p q:Pnt):DenI prog 47 [.agg (aY p),.agg (aY q)] (PB p/\PB q) (.int .i64 (kH p q)):=⟨λhp=>by
 obtain⟨hp,hq⟩:=hp;have:RzB p.ax 5000:=⟨hp.ax⟩
 have:RzB p.bx 250:=⟨hp.bx⟩
 have:RzB p.ay 5000:=⟨hp.ay⟩
 have:RzB p.bb 250:=⟨hp.bb⟩
 have:RzB p.c 5000:=⟨hp.c⟩
 have:RzB q.ax 5000:=⟨hq.ax⟩
 have:RzB q.bx 250:=⟨hq.bx⟩
 have:RzB q.ay 5000:=⟨hq.ay⟩
 have:RzB q.bb 250:=⟨hq.bb⟩
 have:RzB q.c 5000:=⟨hq.c⟩
 all_goals refine aS func47 rfl ?_
 all_goals(repeat'((try(conv=>whnf));first
  |refine ak ?_ ?_|(with_reducible refine aP (λ_=>?_) (λ_=>?_))|refine zac ζ ?_|apply zaa))
 all_goals(try apply zab)
 all_goals first
  |(refine⟨bF ω,bF ω,bF ω,bF ω,bF ω,bF ω,fD hp.nn,fD hq.nn⟩)|exact iE (acR ξ)|exact iE (zY ξ)|exact zaf⟩
instance ang(p q:Pnt):DenI prog 99 [.agg (aY p),.agg (aY q)] (PB p/\PB q) (.bool (pE p q)):=⟨λhp=>by
 obtain⟨hp,hq⟩:=hp;have:RzB p.ax 5000:=⟨hp.ax⟩
 have:RzB p.bx 250:=⟨hp.bx⟩
 have:RzB p.ay 5000:=⟨hp.ay⟩
 have:RzB p.bb 250:=⟨hp.bb⟩
 have:RzB p.c 5000:=⟨hp.c⟩
 have:RzB q.ax 5000:=⟨hq.ax⟩
 have:RzB q.bx 250:=⟨hq.bx⟩
 have:RzB q.ay 5000:=⟨hq.ay⟩
 have:RzB q.bb 250:=⟨hq.bb⟩
 have:RzB q.c 5000:=⟨hq.c⟩
 all_goals refine aS func99 rfl ?_
 all_goals(repeat'((try(conv=>whnf));first
  |refine ak ?_ ?_|apply zaa))
 all_goals(try apply zab)
 all_goals first
  |rfl|exact⟨hp,hq⟩⟩
instance alk(X Y Q:Rat)(p:Pnt):DenI prog 228 [Q3 X Y Q,.agg (aY p)] (rz X<=100/\rz Y<=100/\rz Q<=400/\PB p) (.int .i64 (oG (jl X Y) p)):=⟨λhp=>by
 obtain⟨q0,q1,q2,hp⟩:=hp;have:RzB X 100:=⟨q0⟩
 have:RzB Y 100:=⟨q1⟩
 have:RzB Q 400:=⟨q2⟩
 have:RzB p.ax 5000:=⟨hp.ax⟩
 have:RzB p.bx 250:=⟨hp.bx⟩
 have:RzB p.ay 5000:=⟨hp.ay⟩
 have:RzB p.bb 250:=⟨hp.bb⟩
 have:RzB p.c 5000:=⟨hp.c⟩
 all_goals refine aS func228 rfl ?_
 all_goals(repeat'((try(conv=>whnf));first
  |refine ak ?_ ?_|(with_reducible first|refine aN ?_|refine aI ?_|refine aO (λ_=>?_) (λ_=>?_))|refine zac ζ ?_|apply zaa))
 all_goals(try apply zab)
 all_goals first
  |exact iE (acM hp.nn (by with_reducible assumption))|exact iE (acY hp.nn (by with_reducible assumption) (by with_reducible assumption))|exact iE (acI hp.nn (by with_reducible assumption) (by with_reducible assumption))|exact iE (ads hp.nn (by with_reducible assumption) (by with_reducible assumption))|(refine⟨bF ω,bF ω,bF ω,bF ω,fD hp.nn⟩)|exact zaf⟩
instance an5(X Y Q:Rat)(p q:Pnt):DenI prog 147 [Q3 X Y Q,.agg (aY p),.agg (aY q)] (rz X<=100/\rz Y<=100/\rz Q<=400/\PB p/\PB q) (.int .i64 (E5 (jl X Y) p q)):=⟨λhp=>by
 obtain⟨q0,q1,q2,hp,hq⟩:=hp;have:RzB X 100:=⟨q0⟩
 have:RzB Y 100:=⟨q1⟩
 have:RzB Q 400:=⟨q2⟩
 have:RzB p.ax 5000:=⟨hp.ax⟩
 have:RzB p.bx 250:=⟨hp.bx⟩
 have:RzB p.ay 5000:=⟨hp.ay⟩
 have:RzB p.bb 250:=⟨hp.bb⟩
 have:RzB p.c 5000:=⟨hp.c⟩
 have:RzB q.ax 5000:=⟨hq.ax⟩
 have:RzB q.bx 250:=⟨hq.bx⟩
 have:RzB q.ay 5000:=⟨hq.ay⟩
 have:RzB q.bb 250:=⟨hq.bb⟩
 have:RzB q.c 5000:=⟨hq.c⟩
 have z1:=mY (jl X Y) p;have z2:=mY (jl X Y) q;have z3:=YI hp.nn hq.nn;unfold cX at z3
 all_goals refine aS func147 rfl ?_
 all_goals(repeat'((try(conv=>whnf));first
  |refine ak ?_ ?_|(with_reducible first|refine aO (λ_=>?_) (λ_=>?_)|refine aP (λ_=>?_) (λ_=>?_))|refine zac ζ ?_|apply zaa))
 all_goals(try apply zab)
 all_goals first
  |(refine iE ?_;unfold E5 cX;(try rw[bG ω ω]);grind)|((repeat' apply And.intro)<;>with_reducible assumption)|(refine⟨bF ω,bF ω,bF ω,bF ω,bF ω,bF ω,fD hp.nn,fD hq.nn⟩)⟩
instance an3(X Y Q:Rat)(r p:Pnt):DenI prog 145 [Q3 X Y Q,.agg (aY r),.agg (aY p)] (rz X<=100/\rz Y<=100/\rz Q<=400/\PB r/\PB p) (.int .i64 (Zu (E5 (jl X Y)) r p)):=⟨λhp=>by
 obtain⟨q0,q1,q2,hr,hp⟩:=hp;have:RzB X 100:=⟨q0⟩
 have:RzB Y 100:=⟨q1⟩
 have:RzB Q 400:=⟨q2⟩
 have:RzB r.ax 5000:=⟨hr.ax⟩
 have:RzB r.bx 250:=⟨hr.bx⟩
 have:RzB r.ay 5000:=⟨hr.ay⟩
 have:RzB r.bb 250:=⟨hr.bb⟩
 have:RzB r.c 5000:=⟨hr.c⟩
 have:RzB p.ax 5000:=⟨hp.ax⟩
 have:RzB p.bx 250:=⟨hp.bx⟩
 have:RzB p.ay 5000:=⟨hp.ay⟩
 have:RzB p.bb 250:=⟨hp.bb⟩
 have:RzB p.c 5000:=⟨hp.c⟩
 all_goals refine aS func145 rfl ?_
 all_goals(repeat'((try(conv=>whnf));first
  |refine ak ?_ ?_|(with_reducible refine aO (λ_=>?_) (λ_=>?_))|apply zaa))
 all_goals(try apply zab)
 all_goals first
  |(refine iE ?_;unfold Zu;grind)|((repeat' apply And.intro)<;>with_reducible assumption)⟩
instance amK(n:Int):DenI prog 146 [.int .i64 n] (True) (.int .i64 (sgI n)):=⟨λhp=>by
 refine aS func146 rfl ?_
 all_goals(repeat'((try(conv=>whnf));first
  |apply zaa))
 all_goals first
  |(refine iE ?_;simp only[Na,List.foldl_nil];unfold sgI;(repeat' split)<;>omega)⟩
instance aoh(X Y Q:Rat)(r p q:Pnt):DenI prog 75 [Q3 X Y Q,.agg (aY r),.agg (aY p),.agg (aY q)] (rz X<=100/\rz Y<=100/\rz Q<=400/\PB r/\PB p/\PB q) (.int .i64 (LJ (E5 (jl X Y)) r p q)):=⟨λhp=>by
 obtain⟨q0,q1,q2,hr,hp,hq⟩:=hp;have:RzB X 100:=⟨q0⟩
 have:RzB Y 100:=⟨q1⟩
 have:RzB Q 400:=⟨q2⟩
 have:RzB r.ax 5000:=⟨hr.ax⟩
 have:RzB r.bx 250:=⟨hr.bx⟩
 have:RzB r.ay 5000:=⟨hr.ay⟩
 have:RzB r.bb 250:=⟨hr.bb⟩
 have:RzB r.c 5000:=⟨hr.c⟩
 have:RzB p.ax 5000:=⟨hp.ax⟩
 have:RzB p.bx 250:=⟨hp.bx⟩
 have:RzB p.ay 5000:=⟨hp.ay⟩
 have:RzB p.bb 250:=⟨hp.bb⟩
 have:RzB p.c 5000:=⟨hp.c⟩
 have:RzB q.ax 5000:=⟨hq.ax⟩
 have:RzB q.bx 250:=⟨hq.bx⟩
 have:RzB q.ay 5000:=⟨hq.ay⟩
 have:RzB q.bb 250:=⟨hq.bb⟩
 have:RzB q.c 5000:=⟨hq.c⟩
 have z1:=Qo (E5 (jl X Y)) r p;have z2:=Qo (E5 (jl X Y)) r q
 all_goals refine aS func75 rfl ?_
 all_goals(repeat'((try(conv=>whnf));first
  |refine aC ?_|refine ak ?_ ?_|(with_reducible refine aP (λ_=>?_) (λ_=>?_))|refine zac ζ ?_|apply zaa))
 all_goals(try apply zab)
 all_goals first
  |(refine iE ?_;unfold LJ;rw[if_neg ξ,bG ω ω])|(refine iE ?_;unfold LJ;rw[if_pos ξ])|((repeat' apply And.intro)<;>with_reducible assumption)⟩
end Go.Proofs.YtdpkjhnfklkkjaaGreat
namespace Go.Sw
def SB:Sprt->Prop
 |.ln A B C=>hb A 17/\hb B 17/\hb C 51
 |.ar X Y Q _=>hb X 321/\hb Y 321/\hb Q 1249
structure PC (c:Cv):Prop where
 s:SB c.s
 p:PB c.p
 q:PB c.q
theorem PC.ln{A B C:Rat}{p q:Pnt}(h:PC ⟨.ln A B C,p,q⟩):rz A<=40/\rz B<=40/\rz C<=100:=by
 obtain⟨⟨h1,h2,h3⟩,_,_⟩:=h;exact⟨fZ (dM h1) ψ,fZ (dM h2) ψ,fZ (dM h3) ψ⟩
theorem PC.ar{X Y Q:Rat}{k:Bool}{p q:Pnt}(h:PC ⟨.ar X Y Q k,p,q⟩):rz X<=100/\rz Y<=100/\rz Q<=400:=by
 obtain⟨⟨h1,h2,h3⟩,_,_⟩:=h;exact⟨fZ (dM h1) ψ,fZ (dM h2) ψ,fZ (dM h3) ψ⟩
theorem PC.rev{c:Cv}(h:PC c):PC c.rev:=by
 obtain⟨s,p,q⟩:=c;obtain⟨h1,h2,h3⟩:=h;refine⟨?_,h3,h2⟩;cases s<;>exact h1
def Cv.ccw(c:Cv):Cv:=match c.s with
 |.ar _ _ _ true=>c.rev
 |_=>c
theorem PC.ccw{c:Cv}(h:PC c):PC c.ccw:=by
 obtain⟨s,p,q⟩:=c
 match s,h with
 |.ln _ _ _,h=>exact h
 |.ar _ _ _ true,h=>exact h.rev
 |.ar _ _ _ false,h=>exact h
def Cv.odP(c:Cv)(p q:Pnt):Int:=odA c.s.o c.s.k c.p c.q p q
def Sprt.arc:Sprt->Bool
 |.ln _ _ _=>false
 |.ar _ _ _ _=>true
def Sprt.cw:Sprt->Bool
 |.ln _ _ _=>false
 |.ar _ _ _ k=>k
theorem FM{p q:Pnt}(hp:PB p)(hq:PB q):kH p q = -1\/kH p q=0\/kH p q=1:=Rn hp.nn hq.nn
theorem Np{a b:Int}(ha:a = -1\/a=0\/a=1)(hb:b = -1\/b=0\/b=1):IntKind.i64.wrap (a*b)=a*b:=by
 rcases ha with h|h|h<;>rcases hb with g|g|g<;>subst h<;>subst g<;>rfl
theorem aiB(c:Cv):c.ccw.p=if c.s.k=.cw then c.q else c.p:=by
 obtain⟨s,p,q⟩:=c
 match s with
 |.ln _ _ _=>rfl
 |.ar _ _ _ true=>rfl
 |.ar _ _ _ false=>rfl
theorem af2(c:Cv):c.ccw.q=if c.s.k=.cw then c.p else c.q:=by
 obtain⟨s,p,q⟩:=c
 match s with
 |.ln _ _ _=>rfl
 |.ar _ _ _ true=>rfl
 |.ar _ _ _ false=>rfl
theorem WV{d p:Cv}(h:d.on p.p=false):false=d.cov p:=by unfold Cv.cov;rw[h];rfl
theorem YG{d p:Cv}(h1:d.on p.p=true)(h:d.on p.q=false):false=d.cov p:=by unfold Cv.cov;rw[h1,h];rfl
theorem Yo{d p:Cv}(h1:d.on p.p=true)(h:d.on p.q=true)(ha:d.s.arc=false):true=d.cov p:=by
 obtain⟨s,a,b⟩:=d;cases s with
 |ln _ _ _=>unfold Cv.cov;rw[h1,h];rfl
 |ar _ _ _ _=>cases ha
theorem WE{X Y Q:Rat}{k:Bool}{e f:Pnt}{p:Cv}(h1:(⟨.ar X Y Q k,e,f⟩:Cv).on p.p=true)(h:(⟨.ar X Y Q k,e,f⟩:Cv).on p.q=true):(⟨.ar X Y Q k,e,f⟩:Cv).cov p=(!pE p.ccw.p (if k=true then e else f)&&decide (LJ (E5 (jl X Y)) p.ccw.p p.ccw.q (if k=true then e else f)<=0)):=by
 unfold Cv.cov;rw[h1,h,aiB,af2];cases k<;>rfl
theorem aef{c d:Cv}(h:c.s.same d.s=true):decide (c.s.k=d.s.k)=decide (c.s.cw=d.s.cw):=by
 obtain⟨s,p,q⟩:=c;obtain⟨t,e,f⟩:=d
 match s,t with
 |.ln _ _ _,.ln _ _ _=>rfl
 |.ln _ _ _,.ar _ _ _ _=>cases h
 |.ar _ _ _ _,.ln _ _ _=>cases h
 |.ar _ _ _ a,.ar _ _ _ b=>cases a<;>cases b<;>rfl
theorem amh{c d:Cv}(h:c.s.same d.s=false):false=c.eq d:=by unfold Cv.eq;rw[h];rfl
theorem eq_1{c d:Cv}(h:c.s.same d.s=true)(k:(c.s.cw == d.s.cw)=false):false=c.eq d:=by unfold Cv.eq;rw[h,aef h,decide_eq_false (by simpa using k)];rfl
theorem eq_2{c d:Cv}(h:c.s.same d.s=true)(k:(c.s.cw == d.s.cw)=true)(g:pE c.p d.p=false):false=c.eq d:=by unfold Cv.eq;rw[h,aef h,decide_eq_true (by simpa using k),g];rfl
theorem akn{c d:Cv}(h:c.s.same d.s=true)(k:(c.s.cw == d.s.cw)=true)(g:pE c.p d.p=true):pE c.q d.q=c.eq d:=by unfold Cv.eq;rw[h,aef h,decide_eq_true (by simpa using k),g];rfl
end Go.Sw
