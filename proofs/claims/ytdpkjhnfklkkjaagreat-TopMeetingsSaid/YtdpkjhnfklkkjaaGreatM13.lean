/-
  Rules of the abstract run, plain laws, and what functions answer, for the law TopMeetings.
  Conditions: none.
-/
import Derived.Test.YtdpkjhnfklkkjaaGreatM12
set_option linter.all false
namespace Go.Sw
open Go
@[reducible] def Q6(a b c d e f:Rat):AV:=.agg [zs a.num,zl a.num,zs a.den,zl a.den,zs b.num,zl b.num,zs b.den,zl b.den,zs c.num,zl c.num,zs c.den,zl c.den,zs d.num,zl d.num,zs d.den,zl d.den,zs e.num,zl e.num,zs e.den,zl e.den,zs f.num,zl f.num,zs f.den,zl f.den]
theorem aaT(a b c d:Rat):IntKind.i64.wrap (fP a b c*bD d)=fP a b c*bD d:=by
 have:=lH (uV a b c) (kL d);exact bG ω ω
theorem acr(a b c d e f:Rat):IntKind.i64.wrap (fP a b c*fP d e f)=fP a b c*fP d e f:=by
 have:=lH (uV a b c) (uV d e f);exact bG ω ω
section
variable {a b c d m n x y:Rat}
theorem amf(h:a=0):aW [AV.c (Cell.v (.int .i64 (bD b*bD c)))]=AV.int .i64 (fP a b c):=iE (by
 unfold fP;rw[eU.2 h];split
 .rename_i h;rcases h with h|h<;>omega
 .simp)
theorem ajJ(h:¬a=0)(h2:bD b*bD c=0):aW [AV.c (Cell.v (.int .i64 (bD a)))]=AV.int .i64 (fP a b c):=iE (by unfold fP;rw[if_pos (.inr h2)])
theorem akf(h:¬a=0)(h2:bD a=bD b*bD c):aW [AV.c (Cell.v (.int .i64 (bD a)))]=AV.int .i64 (fP a b c):=iE (by unfold fP;rw[if_pos (.inl h2)])
theorem ahq(h:¬a=0)(h2:¬bD b*bD c=0)(h3:¬bD a=bD b*bD c):aW [AV.c (Cell.v (.int .i64 (bD a*jJ (a*a) (b*b*c))))]=AV.int .i64 (fP a b c):=iE (by
 unfold fP;rw[if_neg (by rintro (h|h);exact h3 h;exact h2 h),if_neg (λe=>h (eU.1 e))])
theorem ajM(h:fP a b m=0):aW [AV.c (Cell.v (.int .i64 (fP c d m*bD n)))]=AV.int .i64 (C9 a b c d m n):=iE (by
 unfold C9;rw[h];split
 .rename_i h;rcases h with h|h<;>omega
 .simp)
theorem al4(h:¬fP a b m=0)(h2:fP c d m*bD n=0):aW [AV.c (Cell.v (.int .i64 (fP a b m)))]=AV.int .i64 (C9 a b c d m n):=iE (by unfold C9;rw[if_pos (.inr h2)])
theorem alQ(h:¬fP a b m=0)(h2:fP a b m=fP c d m*bD n):aW [AV.c (Cell.v (.int .i64 (fP a b m)))]=AV.int .i64 (C9 a b c d m n):=iE (by unfold C9;rw[if_pos (.inl h2)])
theorem ak3(h:¬fP a b m=0)(h2:¬fP c d m*bD n=0)(h3:¬fP a b m=fP c d m*bD n):
 aW [AV.c (Cell.v (.int .i64 (fP a b m*fP (a*a+b*b*m-n*(c*c+d*d*m)) (a*b-n*(c*d)+(a*b-n*(c*d))) m)))]=AV.int .i64 (C9 a b c d m n):=iE (by
 unfold C9;rw[if_neg (by rintro (h|h);exact h3 h;exact h2 h),if_neg h])
theorem agb{q:AV}(k1:nC a.num=true)(k2:nC a.den=true)(e:fQ a=true->q=AV.tup [R (wE a),AV.bool true]):
 aW [AV.agg [zs (if a.num<0 then 0 else(iC a.num.natAbs:Nat)),zl (if a.num<0 then 0 else(iC a.num.natAbs:Nat)),zs (if(a.den:Int)<0 then 0 else(iC (a.den:Int).natAbs:Nat)),zl (if(a.den:Int)<0 then 0 else(iC (a.den:Int).natAbs:Nat))],AV.c (Cell.v (.bool true))]=q :=
 VZ (by rw[k1];rfl) (by rw[k2];rfl) e
theorem ait{q r:AV}(k1:nC a.num=false)(e:¬fQ a=true->q=r):r=q:=(e (Jm (.inl (by rw[k1];rfl)))).symm
theorem ahT{q r:AV}(k1:nC a.den=false)(e:¬fQ a=true->q=r):r=q:=(e (Jm (.inr (by rw[k1];rfl)))).symm
theorem amb(h:fQ c=true):aW [Q3 (a+b*wE c) 0 0,AV.c (Cell.v (.int .i64 0))]=AV.tup [Q3 (dS a b c) (dN b c) (dP b c),AV.int .i64 0]:=by
 unfold dS dN dP;rw[if_pos h,if_pos h,if_pos h];rfl
theorem akd(h:¬fQ c=true):aW [Q3 a b (bC b c),AV.c (Cell.v (.int .i64 0))]=AV.tup [Q3 (dS a b c) (dN b c) (dP b c),AV.int .i64 0]:=by
 have h':fQ c=false:=by simpa using h
 unfold dS dN dP bC;rw[if_neg h,if_neg h,if_neg h,vJ h',vC h'];rfl
end
section
variable {fx fy tx ty x y:Rat} {r fz tz:Int}
end
section
variable {fx fy tx ty x y:Rat} {r fz tz:Int}
end
end Go.Sw
namespace Go.Proofs.YtdpkjhnfklkkjaaGreat
open Go Go.RowKit Go.Sw Go.Proofs.Tryz
set_option maxRecDepth 100000
set_option maxHeartbeats 16000000
set_option synthInstance.maxSize 4000
set_option synthInstance.maxHeartbeats 400000
instance akR(a:Int):DenI prog 320 [Z a] (sz a<=10000000) (.tup [Z (if a<0 then 0 else (iC a.natAbs:Nat)),.bool (nC a)]):=⟨λhp=>by
 have i_a:SzB a 10000000:=⟨hp⟩
 all_goals refine aS func320 rfl ?_
 all_goals(repeat'((try(conv=>whnf));first
  |refine aC ?_|refine ak ?_ ?_|(with_reducible first|refine aN ?_|refine aI ?_|refine aO (λ_=>?_) (λ_=>?_))|refine zac ζ ?_|apply zaa))
 all_goals(try apply zab)
 all_goals(try simp only[bn]at *)
 all_goals first
  |with_reducible exact Xq ξ|with_reducible exact YV ξ|exact zaf⟩
instance amE(a:Rat):DenC prog 281 [R a] (rz a<=1000000) (fQ a=true) (.tup [R (wE a),.bool true]) (.tup [ZR,.bool false]):=⟨Ew λhp q e1 e2=>by
 have:RzB a 1000000:=⟨hp⟩
 all_goals refine aS func281 rfl ?_
 all_goals(repeat'((try(conv=>whnf));first
  |refine ak ?_ ?_|refine zad (λ_=>?_) (λ_=>?_)|apply zaa))
 all_goals(try apply zab)
 all_goals first
  |with_reducible exact agb ξ ξ e1|(refine(Eq.trans ?_ (ait ξ e2));rfl)|(refine(Eq.trans ?_ (ahT ξ e2));rfl)|exact zaf⟩
instance ak2:DenI prog 279 [] (True) (R 0):=⟨λhp=>by
 refine aS func279 rfl ?_
 all_goals(repeat'((try(conv=>whnf));first
  |refine ak ?_ ?_|apply zaa))
 all_goals(try apply zab)
 all_goals first
  |rfl|omega⟩
instance akA(a:Rat):DenI prog 218 [R a] (rz a<=4000000) (Q3 a 0 0):=⟨λhp=>by
 have:RzB a 4000000:=⟨hp⟩
 all_goals refine aS func218 rfl ?_
 all_goals(repeat'((try(conv=>whnf));first
  |refine aC ?_|refine zac ζ ?_|apply zaa))
 all_goals first
  |rfl⟩
instance amZ(a b c:Rat):DenI prog 282 [R a,R b,R c] (rz a<=4000000/\rz b<=4000000/\rz c<=4000000) (Q3 a b (bC b c)):=⟨λhp=>by
 have:RzB a 4000000:=⟨hp.1⟩
 have:RzB b 4000000:=⟨hp.2.1⟩
 have:RzB c 4000000:=⟨hp.2.2⟩
 all_goals refine aS func282 rfl ?_
 all_goals(repeat'((try(conv=>whnf));first
  |refine aC ?_|(with_reducible refine aO (λ_=>?_) (λ_=>?_))|apply zaa))
 all_goals(try simp only[bn]at *)
 all_goals first
  |exact zah⟩
instance akK(a b c:Rat):DenI prog 225 [R a,R b,R c] (rz a<=100000/\rz b<=100000/\rz c<=100000/\0<=c) (.tup [Q3 (dS a b c) (dN b c) (dP b c),.int .i64 0]):=⟨λhp=>by
 have:RzB a 100000:=⟨hp.1⟩
 have:RzB b 100000:=⟨hp.2.1⟩
 have:RzB c 100000:=⟨hp.2.2.1⟩
 have hpre:=hp.2.2.2
 all_goals refine aS func225 rfl ?_
 all_goals(repeat'((try(conv=>whnf));first
  |refine aC ?_|refine ak ?_ ?_|refine aQ ?_ (λ_=>?_) (λ_=>?_)|(with_reducible first|refine aN ?_|refine aI ?_|refine aO (λ_=>?_) (λ_=>?_))|refine zac ζ ?_|apply zaa))
 all_goals(try apply zab)
 all_goals(try simp only[bn]at *)
 all_goals first
  |(exfalso;grind)|with_reducible exact amb ξ|with_reducible exact akd ξ|(refine⟨bF ω,bF ω,bF ω⟩)|exact zaf⟩
instance anS(a b c:Rat):DenI prog 246 [R a,R b,R c] (rz a<=4000000/\rz b<=4000000/\rz c<=4000000) (.int .i64 (fP a b c)):=⟨λhp=>by
 have:RzB a 4000000:=⟨hp.1⟩
 have:RzB b 4000000:=⟨hp.2.1⟩
 have:RzB c 4000000:=⟨hp.2.2⟩
 all_goals refine aS func246 rfl ?_
 all_goals(repeat'((try(conv=>whnf));first
  |refine aC ?_|refine ak ?_ ?_|(with_reducible first|refine aN ?_|refine aI ?_|refine aO (λ_=>?_) (λ_=>?_))|refine zac ζ ?_|apply zaa))
 all_goals(try apply zab)
 all_goals(try simp only[bn]at *)
 all_goals(try simp only[Ue,LC,aaT,acr]at *)
 all_goals first
  |contradiction|with_reducible exact amf ξ|with_reducible exact ajJ ξ ξ|with_reducible exact akf ξ ξ|with_reducible exact ahq ξ ξ ξ|exact zaf⟩
instance alM(a b c d m n:Rat):DenI prog 180 [Q6 a b c d m n] (rz a<=80010/\rz b<=80010/\rz c<=80010/\rz d<=80010/\rz m<=80010/\rz n<=80010/\0<=m/\0<=n) (.int .i64 (C9 a b c d m n)):=⟨λhp=>by
 have:RzB a 80010:=⟨hp.1⟩
 have:RzB b 80010:=⟨hp.2.1⟩
 have:RzB c 80010:=⟨hp.2.2.1⟩
 have:RzB d 80010:=⟨hp.2.2.2.1⟩
 have:RzB m 80010:=⟨hp.2.2.2.2.1⟩
 have:RzB n 80010:=⟨hp.2.2.2.2.2.1⟩
 have hpre:=hp.2.2.2.2.2.2
 all_goals refine aS func180 rfl ?_
 all_goals(repeat'((try(conv=>whnf));first
  |refine aC ?_|refine ak ?_ ?_|(with_reducible first|refine aN ?_|refine aI ?_|refine aO (λ_=>?_) (λ_=>?_))|refine zac ζ ?_|apply zaa))
 all_goals(try apply zab)
 all_goals(try simp only[bn]at *)
 all_goals(try simp only[Ue,LC,aaT,acr]at *)
 all_goals first
  |contradiction|(exfalso;grind)|with_reducible exact ajM ξ|with_reducible exact al4 ξ ξ|with_reducible exact alQ ξ ξ|with_reducible exact ak3 ξ ξ ξ|exact zaf⟩
instance ano(a b c d e f:Rat):DenI prog 181 [Q3 a b c,Q3 d e f] (rz a<=80000/\rz b<=80000/\rz c<=80000/\rz d<=80000/\rz e<=80000/\rz f<=80000) (Q6 (a-d) b (-e) 0 c f):=⟨λhp=>by
 have:RzB a 80000:=⟨hp.1⟩
 have:RzB b 80000:=⟨hp.2.1⟩
 have:RzB c 80000:=⟨hp.2.2.1⟩
 have:RzB d 80000:=⟨hp.2.2.2.1⟩
 have:RzB e 80000:=⟨hp.2.2.2.2.1⟩
 have:RzB f 80000:=⟨hp.2.2.2.2.2⟩
 all_goals refine aS func181 rfl ?_
 all_goals(repeat'((try(conv=>whnf));first
  |refine ak ?_ ?_|refine zac ζ ?_|apply zaa))
 all_goals(try apply zab)
 all_goals first
  |rfl|exact zaf|omega⟩
instance anP(a b c d e f:Rat):DenI prog 100 [Q3 a b c,Q3 d e f] (rz a<=20000/\rz b<=20000/\rz c<=20000/\rz d<=20000/\rz e<=20000/\rz f<=20000/\0<=c/\0<=f) (.int .i64 (cmp4 a b c d e f)):=⟨λhp=>by
 have:RzB a 20000:=⟨hp.1⟩
 have:RzB b 20000:=⟨hp.2.1⟩
 have:RzB c 20000:=⟨hp.2.2.1⟩
 have:RzB d 20000:=⟨hp.2.2.2.1⟩
 have:RzB e 20000:=⟨hp.2.2.2.2.1⟩
 have:RzB f 20000:=⟨hp.2.2.2.2.2.1⟩
 have hpre:=hp.2.2.2.2.2.2
 all_goals refine aS func100 rfl ?_
 all_goals(repeat'((try(conv=>whnf));first
  |refine ak ?_ ?_|apply zaa))
 all_goals(try apply zab)
 all_goals first
  |rfl|exact⟨bF ω,bF ω,bF ω,bF ω,bF ω,bF ω,hpre⟩|exact zaf⟩
instance akq(a b c d:Rat):DenI prog 291 [Q3 a b c,R d] (rz a<=20000/\rz b<=20000/\rz c<=20000/\rz d<=20000) (.int .i64 (fP (a-d) b c)):=⟨λhp=>by
 have:RzB a 20000:=⟨hp.1⟩
 have:RzB b 20000:=⟨hp.2.1⟩
 have:RzB c 20000:=⟨hp.2.2.1⟩
 have:RzB d 20000:=⟨hp.2.2.2⟩
 all_goals refine aS func291 rfl ?_
 all_goals(repeat'((try(conv=>whnf));first
  |refine ak ?_ ?_|refine zac ζ ?_|apply zaa))
 all_goals(try apply zab)
 all_goals first
  |rfl|exact zaf⟩
end Go.Proofs.YtdpkjhnfklkkjaaGreat
namespace Go.Sw
open Go
theorem Y1{x y:Rat}(hy:0<=y)(h:x*x<=y*y):x<=y:=by
 rcases EO (a:=x) (b:=y)with k|k
 .exact k
 .by_cases e:x=y
  .grind
  .have:=F9 (show 0<x-y by grind) (show 0<x+y by grind)
   grind
section
variable {cf cg ct cu bf bg bt bu x y:Rat} {cfz ctz cr bfz btz br:Int}
end
section
variable {a b c d m n e f:Rat}
theorem akI(h:fP c d m*bD n=0):aW [AV.c (Cell.v (.int .i64 (fP a b m)))]=AV.int .i64 (C9 a b c d m n):=iE (by unfold C9;rw[if_pos (.inr h)])
theorem ajI(h:fP a b m=fP c d m*bD n):aW [AV.c (Cell.v (.int .i64 (fP a b m)))]=AV.int .i64 (C9 a b c d m n):=iE (by unfold C9;rw[if_pos (.inl h)])
theorem akB(h1:¬fP c d m*bD n=0)(h2:¬fP a b m=fP c d m*bD n)(h3:fP a b m=0):aW [AV.c (Cell.v (.int .i64 (fP c d m*bD n)))]=AV.int .i64 (C9 a b c d m n):=iE (by
 unfold C9;rw[if_neg (by rintro (h|h);exact h2 h;exact h1 h),if_pos h3])
theorem akr(h1:¬fP c d m*bD n=0)(h2:¬fP a b m=fP c d m*bD n)(h3:¬fP a b m=0):
 aW [AV.c (Cell.v (.int .i64 (fP a b m*fP (a*a+m*(b*b)-n*(c*c+m*(d*d))) (a*b-n*(c*d)+(a*b-n*(c*d))) m)))]=AV.int .i64 (C9 a b c d m n):=iE (by
 unfold C9;rw[if_neg (by rintro (h|h);exact h2 h;exact h1 h),if_neg h3];have e1:a*a+m*(b*b)-n*(c*c+m*(d*d))=a*a+b*b*m-n*(c*c+d*d*m):=ν
 rw[e1])
end
def mM(A B C D M N:Rat):Int×Bool:=match sZ A B C D M N with|some p=>zi p.1 p.2|none=>(0,false)
theorem Tc{A B C D M N:Rat}(hM:0<=M)(hN:0<=N)(h:(mM A B C D M N).2=true):(mM A B C D M N).1=C9 A B C D M N:=by
 unfold mM at *;cases hq:sZ A B C D M N with
 |none=>rw[hq]at h;cases h
 |some p =>
  rw[hq]at h;simp only at *;exact(Ug hM hN hq (Prod.ext rfl h)).symm
theorem iv1{x:Int×Int}(h:yT x):x.1<=x.2∧-2305843009213693952<=x.1/\x.1<=2305843009213693952∧-2305843009213693952<=x.2/\x.2<=2305843009213693952:=by unfold yT at h;omega
theorem iv2{x y:Int×Int}(h:yT x)(k:yT y):-2305843009213693952<=x.1/\x.1<=2305843009213693952∧-2305843009213693952<=x.2/\x.2<=2305843009213693952∧-2305843009213693952<=y.1/\y.1<=2305843009213693952∧-2305843009213693952<=y.2/\y.2<=2305843009213693952:=by unfold yT at h k;omega
@[reducible] def gF(q:Rat):Int × Int:=(dh q).getD (0,0)
@[reducible] def gS(q:Rat):Int × Int:=(jr (gF q)).getD (0,0)
@[reducible] def gM(q m:Rat):Int × Int:=(jL (gF q) (gS m)).getD (0,0)
@[reducible] def gK(m n:Rat):Int × Int:=(jL (gS m) (gS n)).getD (0,0)
@[reducible] def gD(d m n:Rat):Int × Int:=(jL (gF d) (gK m n)).getD (0,0)
@[reducible] def gA(a b m:Rat):Int × Int:=(jR (gF a) (gM b m)).getD (0,0)
@[reducible] def gB(c d m n:Rat):Int × Int:=(jR (gM c n) (gD d m n)).getD (0,0)
structure Qk (a b c d m n:Rat):Prop where
 h1:(dh m).isSome=true
 h2:(jr (gF m)).isSome=true
 h3:(dh n).isSome=true
 h4:(jr (gF n)).isSome=true
 h5:(dh b).isSome=true
 h6:(jL (gF b) (gS m)).isSome=true
 h7:(dh c).isSome=true
 h8:(jL (gF c) (gS n)).isSome=true
 h9:(dh d).isSome=true
 h10:(jL (gS m) (gS n)).isSome=true
 h11:(jL (gF d) (gK m n)).isSome=true
 h12:(dh a).isSome=true
 h13:(jR (gF a) (gM b m)).isSome=true
 h14:(jR (gM c n) (gD d m n)).isSome=true
 h15:(jR (gA a b m) (gB c d m n)).isSome=true
theorem fO{o:Option (Int×Int)}(h:o.isSome=true):o=some (o.getD (0,0)):=by cases o with|none=>cases h|some x=>rfl
theorem U2{a b c d m n:Rat}(h:Qk a b c d m n):mM a b c d m n=zi ((jR (gA a b m) (gB c d m n)).getD (0,0)).1 ((jR (gA a b m) (gB c d m n)).getD (0,0)).2:=by
 have e1:=fO h.h1;have e2:=fO h.h2;have e3:=fO h.h3;have e4:=fO h.h4;have e5:=fO h.h5;have e6:=fO h.h6;have e7:=fO h.h7;have e8:=fO h.h8;have e9:=fO h.h9;have e10:=fO h.h10;have e11:=fO h.h11;have e12:=fO h.h12;have e13:=fO h.h13;have e14:=fO h.h14;have e15:=fO h.h15;unfold mM sZ m4I mI;rw[e1,e3];simp only;rw[e2,e4];simp only;rw[e5,e7];simp only;rw[e6,e8,e10];simp only;rw[e9];simp only;rw[e11,e12];simp only;rw[e13,e14];simp only;rw[e15];rfl
theorem XW{a b c d m n:Rat}(h:¬Qk a b c d m n):mM a b c d m n=(0,false):=by
 have key:∀p,sZ a b c d m n=some p->Qk a b c d m n:=by
  intro p e;unfold sZ m4I mI at e;cases h1:dh m with
  |none=>rw[h1]at e;cases e
  |some x1 =>
  cases h3:dh n with
  |none=>rw[h1,h3]at e;cases e
  |some x3 =>
  rw[h1,h3]at e;simp only at e;cases h2:jr x1 with
  |none=>rw[h2]at e;cases e
  |some x2 =>
  cases h4:jr x3 with
  |none=>rw[h2,h4]at e;cases e
  |some x4 =>
  rw[h2,h4]at e;simp only at e;cases h5:dh b with
  |none=>rw[h5]at e;cases e
  |some x5 =>
  rw[h5]at e;simp only at e;cases h6:jL x5 x2 with
  |none=>rw[h6]at e;cases e
  |some x6 =>
  rw[h6]at e;cases h7:dh c with
  |none=>rw[h7]at e;cases e
  |some x7 =>
  rw[h7]at e;simp only at e;cases h8:jL x7 x4 with
  |none=>rw[h8]at e;cases e
  |some x8 =>
  rw[h8]at e;cases h10:jL x2 x4 with
  |none=>rw[h10]at e;cases e
  |some x10 =>
  rw[h10]at e;simp only at e;cases h9:dh d with
  |none=>rw[h9]at e;cases e
  |some x9 =>
  rw[h9]at e;simp only at e;cases h11:jL x9 x10 with
  |none=>rw[h11]at e;cases e
  |some x11 =>
  rw[h11]at e;cases h12:dh a with
  |none=>rw[h12]at e;cases e
  |some x12 =>
  rw[h12]at e;simp only at e;cases h13:jR x12 x6 with
  |none=>rw[h13]at e;cases e
  |some x13 =>
  rw[h13]at e;cases h14:jR x8 x11 with
  |none=>rw[h14]at e;cases e
  |some x14 =>
  rw[h14]at e;simp only at e;have f1:gF m=x1:=by unfold gF;rw[h1];rfl
  have f2:gS m=x2:=by unfold gS;rw[f1,h2];rfl
  have f3:gF n=x3:=by unfold gF;rw[h3];rfl
  have f4:gS n=x4:=by unfold gS;rw[f3,h4];rfl
  have f5:gF b=x5:=by unfold gF;rw[h5];rfl
  have f6:gM b m=x6:=by unfold gM;rw[f5,f2,h6];rfl
  have f7:gF c=x7:=by unfold gF;rw[h7];rfl
  have f8:gM c n=x8:=by unfold gM;rw[f7,f4,h8];rfl
  have f9:gF d=x9:=by unfold gF;rw[h9];rfl
  have f10:gK m n=x10:=by unfold gK;rw[f2,f4,h10];rfl
  have f11:gD d m n=x11:=by unfold gD;rw[f9,f10,h11];rfl
  have f12:gF a=x12:=by unfold gF;rw[h12];rfl
  have f13:gA a b m=x13:=by unfold gA;rw[f12,f6,h13];rfl
  have f14:gB c d m n=x14:=by unfold gB;rw[f8,f11,h14];rfl
  exact⟨by rw[h1];rfl,by rw[f1,h2];rfl,by rw[h3];rfl,by rw[f3,h4];rfl,by rw[h5];rfl,by rw[f5,f2,h6];rfl,by rw[h7];rfl,by rw[f7,f4,h8];rfl,by rw[h9];rfl,by rw[f2,f4,h10];rfl,by rw[f9,f10,h11];rfl,by rw[h12];rfl,by rw[f12,f6,h13];rfl,by rw[f8,f11,h14];rfl,by rw[f13,f14,e];rfl⟩
 unfold mM;cases hq:sZ a b c d m n with
 |none=>rfl
 |some p=>exact absurd (key p hq) h
def iM(p q:Option (Int×Int)):Int×Bool :=
 match p,q with
 |some x,some y=>if x.2<y.1 then(-1,true)else if x.1>y.2 then(1,true)else(0,false)
 |_,_=>(0,false)
theorem OB{a b c d e f:Rat}(hc:0<=c)(hf:0<=f)(h:(iM (bQ a b c) (bQ d e f)).2=true):(iM (bQ a b c) (bQ d e f)).1=cmp4 a b c d e f:=by
 cases h1:bQ a b c with
 |none=>rw[h1]at h;simp[iM]at h
 |some x =>
  cases h2:bQ d e f with
  |none=>rw[h1,h2]at h;simp[iM]at h
  |some y =>
   rw[h1,h2]at h;unfold iM at *;simp only at *;split
   .rename_i hl;exact(DI hc hf h1 h2 hl).symm
   .split
    .rename_i hl;exact(Mc hc hf h1 h2 hl).symm
    .rename_i k1 k2;rw[if_neg k1,if_neg k2]at h;cases h
theorem N8{a b c d:Rat}(hc:0<=c):cmp4 a b c d 0 0=fP (a-d) b c :=
 (lY hc ψ).uniq ((FC hc).cg λn=>by unfold v2;grind)
theorem YR{c s:Rat}(hs:0<=s)(h:s*s=c):NulS λn=>s-nK c n:=λd hd=>by
 obtain⟨N,hN⟩:=eps_nul d hd;refine⟨N,λn hn=>?_⟩;obtain⟨a1,a2,a3⟩:=wS (c:=c) (by rw[<-h];exact AQ hs hs) n;have:=Y1 hs (show nK c n*nK c n<=s*s by grind);have:=BL (x:=s) (y:=nK c n+rE n) (by have:=tJ n;grind) ν;have:=(hN n hn).2;constructor<;>grind
theorem QX(a b c:Rat):NulS λn=>v2 (dS a b c) (dN b c) (dP b c) n-v2 a b c n:=by
 unfold dS dN dP;cases hs:fQ c with
 |true =>
  simp only[if_true];exact((YR (adG hs) (NV hs)).mul (Cau.const b).bnd).cg λn=>by unfold v2;grind
 |false =>
  simp only[eF,if_false,vJ hs,vC hs]
  by_cases hb:b=0
  .rw[if_pos hb,hb];exact NulS.zero.cg λn=>by unfold v2;grind
  .rw[if_neg hb];exact NulS.zero.cg λn=>by grind
section
variable {cf cg ct cu bf bg bt bu x y:Rat} {cfz ctz cr bfz btz br:Int}
end
end Go.Sw
namespace Go.Proofs.YtdpkjhnfklkkjaaGreat
open Go Go.RowKit Go.Sw Go.Proofs.Tryz
set_option maxRecDepth 100000
set_option maxHeartbeats 16000000
set_option synthInstance.maxSize 4000
set_option synthInstance.maxHeartbeats 400000
end Go.Proofs.YtdpkjhnfklkkjaaGreat
namespace Go.Sw
open Go Go.RowKit
theorem lC(w:World)(g:Nat)(cs:Array Value):(w.setRow g cs).heap.size=w.heap.size:=by simp[World.setRow]
theorem St.over{w0 w:World}{S:List Bx}(h:St w0 w S){g:Nat}(cs:Array Value)(hg:g<w0.heap.size):St (w0.setRow g cs) (w.setRow g cs) S:=by
 refine⟨⟨h.below.os,h.below.tape,h.below.output,by rw[lC,lC];exact h.below.size,λk hk=>?_⟩,λb hb=>?_,h.nd⟩
 .rw[lC]at hk;have hb:=h.below.block k hk
  by_cases e:k=g
  .subst e;simp[World.setRow,Array.getElem?_modify,hb]
  .rw[setRow_other _ _ _ _ e,setRow_other _ _ _ _ e];exact hb
 .obtain⟨h1,h2⟩:=h.box b hb;rw[lC,setRow_other _ _ _ _ ω];exact⟨h1,h2⟩
theorem St.grown{w0 w:World}{S:List Bx}{g:Nat}{cs:Array Value}(h:St (w0.setRow g cs) w S):w0.grownBy w (some g):=by
 refine⟨h.below.os,h.below.tape,h.below.output,by have:=h.below.size;rwa [lC]at this,λk hk hn=>?_⟩;have:=h.below.block k (by rw[lC];exact hk);rw[this,setRow_other _ _ _ _ (λe=>hn (by rw[e]))]
section
variable {P:Program} {Q:Exit->Act->World->Prop} {a:Act} {w:World} {K:Act->World->Prop} {N:Nat} {L:List (Nat × Value)} {ρ:Operand->Value} {d:Option Nat}
variable {ty:TypeId} {pos:String} {af:Array Edge} {gd:Option (Nat × Bool)}
theorem Bl{x:Operand}{ad:Addr}(hx:ρ x=.pointer (some ad)):(execOp ρ ⟨d,.nilCheck x,ty,pos,af,gd⟩).run P w=.ok (.value (.pointer (some ad))) w:=by simp[execOp,hx]
theorem Gy{t T:TypeId}{x y:Operand}{g off:Nat}{v:Value}{vs cs:Array Value}(hF:Frm N a L)(hg:w.heap[g]?=some (.cells cs T (0,0)))
 (hx:ev L x=some (.pointer (some ⟨g,off,none⟩))) (hy:ev L y=some v) (hv:v.cells=vs) (hsz:(P.info? t).map (·.size)=some vs.size) (h1:vs.toList.all Value.oneCell'=true) (hfit:off+vs.size<=cs.size)
 (k:K a (w.setRow g (splice cs off vs))):Oper.wp P ⟨none,.store t x y,ty,pos,af,gd⟩ a w K Q:=by
 unfold Oper.wp
 have hr:(execOp a.eval ⟨none,.store t x y,ty,pos,af,gd⟩).run P w=.ok .skip (w.setRow g (splice cs off vs)):=by
  simp[execOp,hF.ev hx,hF.ev hy,qp hv hsz h1 hg hfit]
 rw[hr];simp only[Oper.upon,Act.put];exact k
end
theorem RepC.v_eq{w:World}{X:List Nat}{u v:Value}(h:RepC w X u (.v v)):u=v:=by cases h;rfl
theorem RepL.v1{w:World}{X:List Nat}{us:List Value}{a:Value}(h:RepL w X us [.v a]):us=[a]:=by
 obtain⟨r,rfl,h⟩:=h.vcons;have:=h.len;cases r with
 |nil=>rfl
 |cons=>simp at this
theorem RepL.v2{w:World}{X:List Nat}{us:List Value}{a b:Value}(h:RepL w X us [.v a,.v b]):us=[a,b]:=by
 obtain⟨r,rfl,k⟩:=h.vcons;exact congrArg (List.cons a) k.v1
theorem RepL.of2{w:World}{X:List Nat}{a b:Value}(h1:a.oneCell'=true)(h2:b.oneCell'=true):RepL w X [a,b] [.v a,.v b]:=.cons (.v _ h1) (.cons (.v _ h2) (.nil _ _))
theorem RepD.agg_v2{w:World}{X:List Nat}{u a b:Value}(h:RepD w X u (.agg [.v a,.v b])):u=.agg #[a,b]:=by
 cases h with
 |agg h=>rw[h.v2]
theorem RepD.v_eq{w:World}{X:List Nat}{u a:Value}(h:RepD w X u (.c (.v a))):u=a:=by
 cases h with
 |c h=>exact h.v_eq
end Go.Sw
namespace Go.Sw
open Go
section
variable {a b c d e f m n:Rat}
theorem ajZ(h:bD b*bD c=0):aW [AV.c (Cell.v (.int .i64 (bD a)))]=AV.int .i64 (fP a b c):=iE (by unfold fP;rw[if_pos (.inr h)])
theorem ajD(h:bD a=bD b*bD c):aW [AV.c (Cell.v (.int .i64 (bD a)))]=AV.int .i64 (fP a b c):=iE (by unfold fP;rw[if_pos (.inl h)])
theorem ajN(h1:¬bD b*bD c=0)(h2:¬bD a=bD b*bD c)(h3:a=0):aW [AV.c (Cell.v (.int .i64 (bD b*bD c)))]=AV.int .i64 (fP a b c):=iE (by
 unfold fP;rw[if_neg (by rintro (h|h);exact h2 h;exact h1 h),if_pos (by rw[h3];rfl)])
theorem alz(h1:¬bD b*bD c=0)(h2:¬bD a=bD b*bD c)(h3:¬a=0):aW [AV.c (Cell.v (.int .i64 (bD a*jJ (a*a) (b*b*c))))]=AV.int .i64 (fP a b c):=ahq h3 h1 h2
theorem amG(h:¬Qk a b c d m n):aW [AV.c (Cell.v (.int .i64 0)),AV.c (Cell.v (.bool false))]=AV.tup [AV.int .i64 (mM a b c d m n).1,AV.bool (mM a b c d m n).2]:=by
 rw[XW h];rfl
theorem af9(hm:0<=m)(hn:0<=n)(h:(mM a b c d m n).2=true):aW [AV.c (Cell.v (.int .i64 (mM a b c d m n).1))]=AV.int .i64 (C9 a b c d m n):=iE (Tc hm hn h)
theorem alP(hc:0<=c)(hf:0<=f)(h1:b=0)(h2:e=0):aW [AV.c (Cell.v (.int .i64 (jJ a d)))]=AV.int .i64 (cmp4 a b c d e f):=by
 subst h1 h2;exact iE (Y9 hc hf).symm
theorem akU(hc:0<=c)(hf:0<=f)(h:(iM (bQ a b c) (bQ d e f)).2=true):aW [AV.c (Cell.v (.int .i64 (iM (bQ a b c) (bQ d e f)).1))]=AV.int .i64 (cmp4 a b c d e f):=iE (OB hc hf h)
theorem akc(hc:0<=c)(h:c=f):aW [AV.c (Cell.v (.int .i64 (fP (a-d) (b-e) c)))]=AV.int .i64 (cmp4 a b c d e f):=by
 subst h;exact iE (Xd hc).symm
theorem aiT(h:(bQ a b c).isSome=false):aW [AV.c (Cell.v (.int .i64 0)),AV.c (Cell.v (.bool false))]=AV.tup [AV.int .i64 (iM (bQ a b c) (bQ d e f)).1,AV.bool (iM (bQ a b c) (bQ d e f)).2]:=by
 cases hq:bQ a b c with
 |none=>rfl
 |some x=>rw[hq]at h;cases h
theorem agq(h:(bQ d e f).isSome=false):aW [AV.c (Cell.v (.int .i64 0)),AV.c (Cell.v (.bool false))]=AV.tup [AV.int .i64 (iM (bQ a b c) (bQ d e f)).1,AV.bool (iM (bQ a b c) (bQ d e f)).2]:=by
 cases hq:bQ d e f with
 |none=>cases hr:bQ a b c<;>rfl
 |some x=>rw[hq]at h;cases h
theorem ah5(h1:(bQ a b c).isSome=true)(h2:(bQ d e f).isSome=true)(h:((bQ a b c).getD (0,0)).2<((bQ d e f).getD (0,0)).1):
 aW [AV.c (Cell.v (.int .i64 (-1))),AV.c (Cell.v (.bool true))]=AV.tup [AV.int .i64 (iM (bQ a b c) (bQ d e f)).1,AV.bool (iM (bQ a b c) (bQ d e f)).2]:=by
 cases hq:bQ a b c with
 |none=>rw[hq]at h1;cases h1
 |some x=>cases hr:bQ d e f with
  |none=>rw[hr]at h2;cases h2
  |some y=>rw[hq,hr]at h;unfold iM;simp only[Bd]at *;rw[if_pos h];rfl
theorem aiC(h1:(bQ a b c).isSome=true)(h2:(bQ d e f).isSome=true)(h0:¬((bQ a b c).getD (0,0)).2<((bQ d e f).getD (0,0)).1)(h:((bQ a b c).getD (0,0)).1>((bQ d e f).getD (0,0)).2):
 aW [AV.c (Cell.v (.int .i64 1)),AV.c (Cell.v (.bool true))]=AV.tup [AV.int .i64 (iM (bQ a b c) (bQ d e f)).1,AV.bool (iM (bQ a b c) (bQ d e f)).2]:=by
 cases hq:bQ a b c with
 |none=>rw[hq]at h1;cases h1
 |some x=>cases hr:bQ d e f with
  |none=>rw[hr]at h2;cases h2
  |some y=>rw[hq,hr]at h h0;unfold iM;simp only[Bd]at *;rw[if_neg h0,if_pos h];rfl
theorem ais(h1:(bQ a b c).isSome=true)(h2:(bQ d e f).isSome=true)(h0:¬((bQ a b c).getD (0,0)).2<((bQ d e f).getD (0,0)).1)(h:¬((bQ a b c).getD (0,0)).1>((bQ d e f).getD (0,0)).2):
 aW [AV.c (Cell.v (.int .i64 0)),AV.c (Cell.v (.bool false))]=AV.tup [AV.int .i64 (iM (bQ a b c) (bQ d e f)).1,AV.bool (iM (bQ a b c) (bQ d e f)).2]:=by
 cases hq:bQ a b c with
 |none=>rw[hq]at h1;cases h1
 |some x=>cases hr:bQ d e f with
  |none=>rw[hr]at h2;cases h2
  |some y=>rw[hq,hr]at h h0;unfold iM;simp only[Bd]at *;rw[if_neg h0,if_neg h];rfl
end
end Go.Sw
namespace Go.Proofs.YtdpkjhnfklkkjaaGreat
open Go Go.RowKit Go.Sw Go.Proofs.Tryz
set_option maxRecDepth 100000
set_option maxHeartbeats 16000000
set_option synthInstance.maxSize 4000
set_option synthInstance.maxHeartbeats 400000
theorem yc:uK prog 257 0=some 0:=ζ
theorem ahp:jq prog 4=true:=ζ
theorem GN:isRow prog 69 2=true:=ζ
theorem RZ{w:World}{X:List Nat}{g:Nat}{T:TypeId}{l h:Int}{q:Bool}(hX:∀m∈X,m<w.heap.size)(hg:w.heap[g]?=some (.cells #[.bool true] T (0,0))):
 Calls prog 286 #[.pointer (some ⟨g,0,none⟩),.agg #[.int .i64 l,.int .i64 h],.bool q] w (Ar λu w'=>RepR w' X u (.agg [.v (.int .i64 l),.v (.int .i64 h)])/\w.grownBy w' (some g)/\∃us':List Value,w'.heap[g]?=some (.cells us'.toArray T (0,0))/\RepL w' X us' [.v (.bool q)]):=by
 have hgw:g<w.heap.size:=by
  rcases Ju g w.heap.size with k|k
  .exact k
  .rw[Array.getElem?_eq_none k]at hg;cases hg
 refine enter (N:=18) (fn:=Tryz.f286) (vs:=[.pointer (some ⟨g,0,none⟩),.agg #[.int .i64 l,.int .i64 h],.bool q]) func286 rfl rfl rfl ?_;intro fa hF;replace hF:Frm 18 fa [(0,.pointer (some ⟨g,0,none⟩)),(1,.agg #[.int .i64 l,.int .i64 h]),(2,.bool q)]:=hF;have hS:=St.refl w;refine bI ?_;refine bK ?_;refine st rfl (VT (X:=X) hF hS rfl rfl rfl ?_);intro g1 w2 hg4 hS E3;refine qh ?_;clear hF fa;intro fa hF;replace hS:St w w2 [(g1,69,#[.int .i64 l,.int .i64 h])]:=hS;refine st rfl (J3 (X:=(g1::X)) hF hS rfl (show zeroOf prog 69=some #[.int .i64 0,.int .i64 0] by kernel_rfl) ?_);intro g5 w6 hg8 hS E7;refine qh ?_;clear hF fa;intro fa hF;replace hS:St w w6 [(g5,69,#[.int .i64 0,.int .i64 0]),(g1,69,#[.int .i64 l,.int .i64 h])]:=hS;have hg6:w6.heap[g]?=some (.cells #[.bool true] T (0,0)):=by rw[hS.below.block g hgw];exact hg
 refine aV ?_;refine bI ?_;refine bK ?_;refine iW hF rfl rfl rfl (bT (hF.ev rfl)) ?_;clear hF fa;intro fa hF;refine iW hF rfl rfl rfl (bT (hF.ev rfl)) ?_;clear hF fa;intro fa hF;refine iW hF rfl rfl rfl (Bl (hF.ev rfl)) ?_;clear hF fa;intro fa hF;refine iW hF rfl rfl rfl (gU yc (hF.ev rfl)) ?_;clear hF fa;intro fa hF;refine iW hF rfl rfl rfl (jZ ahp (hF.ev rfl) hg6 rfl) ?_;clear hF fa;intro fa hF;refine iW hF rfl rfl rfl (bT (hF.ev rfl)) ?_;clear hF fa;intro fa hF;refine Pv hF rfl rfl rfl rfl (bT (hF.ev rfl)) ?_;clear hF fa;intro fa hF;refine iW hF rfl rfl rfl (vS (hF.ev rfl) (λ_=>hF.ev rfl) (v:=undef) (λh=>by cases h) rfl) ?_;clear hF fa;intro fa hF;refine iW hF rfl rfl rfl (Bl (hF.ev rfl)) ?_;clear hF fa;intro fa hF;refine iW hF rfl rfl rfl (gU yc (hF.ev rfl)) ?_;clear hF fa;intro fa hF;refine st rfl (Gy (vs:=#[.bool q]) hF hg6 rfl rfl rfl (show(prog.info? 4).map (λi=>i.size)=some 1 by kernel_rfl) rfl (Nat.le_of_ble_eq_true rfl) ?_);replace hS:=hS.over (splice #[.bool true] 0 #[.bool q]) hgw;have hg7:(w6.setRow g (splice #[.bool true] 0 #[.bool q])).heap[g]?=some (.cells #[.bool q] T (0,0)):=setRow_heap w6 g _ _ T _ hg6;generalize w6.setRow g (splice #[.bool true] 0 #[.bool q])=w7 at *;refine aV ?_;refine bI ?_;refine bK ?_;refine iW hF rfl rfl rfl (BK GN (hF.ev rfl) (hS.get 1 rfl) rfl) ?_;clear hF fa;intro fa hF;refine st rfl (iT (X:=(g5 ::(g1::X))) hF hS 0 rfl η rfl rfl rfl (show(prog.info? 69).map (λi=>i.size)=some 2 by kernel_rfl) rfl (Nat.le_of_ble_eq_true rfl) ?_);intro w8 hS E9;have hg8':w8.heap[g]?=some (.cells #[.bool q] T (0,0)):=by rw[hS.below.block g (by rw[lC];exact hgw),setRow_heap w g _ _ T _ hg];rfl
 replace hS:St (w.setRow g (splice #[.bool true] 0 #[.bool q])) w8 [(g5,69,#[.int .i64 l,.int .i64 h]),(g1,69,#[.int .i64 l,.int .i64 h])]:=hS;refine aV ?_;refine tV ?_;refine Xj hF rfl (Kt hF rfl GN (hS.get 0 rfl) rfl) ?_;exact⟨_,rfl,.d (.agg (.of2 rfl rfl)),hS.grown,[.bool q],hg8',.cons (.v _ rfl) (.nil _ _)⟩
theorem Oj{w:World}{X:List Nat}{g:Nat}{T:TypeId}{l h:Int}{q:Bool}(hX:∀m∈X,m<w.heap.size)(hg:w.heap[g]?=some (.cells #[.bool false] T (0,0))):
 Calls prog 286 #[.pointer (some ⟨g,0,none⟩),.agg #[.int .i64 l,.int .i64 h],.bool q] w (Ar λu w'=>RepR w' X u (.agg [.v (.int .i64 l),.v (.int .i64 h)])/\w.grownBy w' (some g)/\∃us':List Value,w'.heap[g]?=some (.cells us'.toArray T (0,0))/\RepL w' X us' [.v (.bool false)]):=by
 have hgw:g<w.heap.size:=by
  rcases Ju g w.heap.size with k|k
  .exact k
  .rw[Array.getElem?_eq_none k]at hg;cases hg
 refine enter (N:=18) (fn:=Tryz.f286) (vs:=[.pointer (some ⟨g,0,none⟩),.agg #[.int .i64 l,.int .i64 h],.bool q]) func286 rfl rfl rfl ?_;intro fa hF;replace hF:Frm 18 fa [(0,.pointer (some ⟨g,0,none⟩)),(1,.agg #[.int .i64 l,.int .i64 h]),(2,.bool q)]:=hF;have hS:=St.refl w;refine bI ?_;refine bK ?_;refine st rfl (VT (X:=X) hF hS rfl rfl rfl ?_);intro g1 w2 hg4 hS E3;refine qh ?_;clear hF fa;intro fa hF;replace hS:St w w2 [(g1,69,#[.int .i64 l,.int .i64 h])]:=hS;refine st rfl (J3 (X:=(g1::X)) hF hS rfl (show zeroOf prog 69=some #[.int .i64 0,.int .i64 0] by kernel_rfl) ?_);intro g5 w6 hg8 hS E7;refine qh ?_;clear hF fa;intro fa hF;replace hS:St w w6 [(g5,69,#[.int .i64 0,.int .i64 0]),(g1,69,#[.int .i64 l,.int .i64 h])]:=hS;have hg6:w6.heap[g]?=some (.cells #[.bool false] T (0,0)):=by rw[hS.below.block g hgw];exact hg
 refine aV ?_;refine bI ?_;refine bK ?_;refine iW hF rfl rfl rfl (bT (hF.ev rfl)) ?_;clear hF fa;intro fa hF;refine iW hF rfl rfl rfl (bT (hF.ev rfl)) ?_;clear hF fa;intro fa hF;refine iW hF rfl rfl rfl (Bl (hF.ev rfl)) ?_;clear hF fa;intro fa hF;refine iW hF rfl rfl rfl (gU yc (hF.ev rfl)) ?_;clear hF fa;intro fa hF;refine iW hF rfl rfl rfl (jZ ahp (hF.ev rfl) hg6 rfl) ?_;clear hF fa;intro fa hF;refine iW hF rfl rfl rfl (bT (hF.ev rfl)) ?_;clear hF fa;intro fa hF;refine Qe hF rfl rfl rfl rfl rfl ?_;clear hF fa;intro fa hF;refine iW hF rfl rfl rfl (vS (hF.ev rfl) (u:=undef) (λh=>by cases h) (λ_=>hF.ev rfl) rfl) ?_;clear hF fa;intro fa hF;refine iW hF rfl rfl rfl (Bl (hF.ev rfl)) ?_;clear hF fa;intro fa hF;refine iW hF rfl rfl rfl (gU yc (hF.ev rfl)) ?_;clear hF fa;intro fa hF;refine st rfl (Gy (vs:=#[.bool false]) hF hg6 rfl rfl rfl (show(prog.info? 4).map (λi=>i.size)=some 1 by kernel_rfl) rfl (Nat.le_of_ble_eq_true rfl) ?_);replace hS:=hS.over (splice #[.bool false] 0 #[.bool false]) hgw;have hg7:(w6.setRow g (splice #[.bool false] 0 #[.bool false])).heap[g]?=some (.cells #[.bool false] T (0,0)):=setRow_heap w6 g _ _ T _ hg6;generalize w6.setRow g (splice #[.bool false] 0 #[.bool false])=w7 at *;refine aV ?_;refine bI ?_;refine bK ?_;refine iW hF rfl rfl rfl (BK GN (hF.ev rfl) (hS.get 1 rfl) rfl) ?_;clear hF fa;intro fa hF;refine st rfl (iT (X:=(g5 ::(g1::X))) hF hS 0 rfl η rfl rfl rfl (show(prog.info? 69).map (λi=>i.size)=some 2 by kernel_rfl) rfl (Nat.le_of_ble_eq_true rfl) ?_);intro w8 hS E9;have hg8':w8.heap[g]?=some (.cells #[.bool false] T (0,0)):=by rw[hS.below.block g (by rw[lC];exact hgw),setRow_heap w g _ _ T _ hg];rfl
 replace hS:St (w.setRow g (splice #[.bool false] 0 #[.bool false])) w8 [(g5,69,#[.int .i64 l,.int .i64 h]),(g1,69,#[.int .i64 l,.int .i64 h])]:=hS;refine aV ?_;refine tV ?_;refine Xj hF rfl (Kt hF rfl GN (hS.get 0 rfl) rfl) ?_;exact⟨_,rfl,.d (.agg (.of2 rfl rfl)),hS.grown,[.bool false],hg8',.cons (.v _ rfl) (.nil _ _)⟩
instance akt(p q:Bool)(l h:Int):DenI prog 286 [.tup [.agg [.v (.bool p)]],.agg [.v (.int .i64 l),.v (.int .i64 h)],.bool q] True (.tup [.agg [.v (.bool (p && q))],.agg [.v (.int .i64 l),.v (.int .i64 h)]]) :=
 ⟨λ_=>⟨ζ,λw X g T us vs hX hg hU hl hv=>by
  match vs,hl with
  |[u,v],_ =>
   have e1:=(hv 0 u _ rfl rfl).agg_v2;have e2:=(hv 1 v _ rfl rfl).v_eq;have e3:=hU.v1;subst e1 e2 e3;cases p with
   |true=>exact RZ hX hg
   |false=>exact Oj hX hg⟩⟩
instance ai3(a b c:Rat):DenI prog 159 [R a,R b,R c] (rz a<=3300000/\rz b<=3300000/\rz c<=3300000) (.int .i64 (fP a b c)):=⟨λhp=>by
 have:RzB a 3300000:=⟨hp.1⟩
 have:RzB b 3300000:=⟨hp.2.1⟩
 have:RzB c 3300000:=⟨hp.2.2⟩
 all_goals refine aS func159 rfl ?_
 all_goals(repeat'((try(conv=>whnf));first
  |refine aC ?_|refine ak ?_ ?_|(with_reducible first|refine aN ?_|refine aI ?_|refine aO (λ_=>?_) (λ_=>?_))|refine zac ζ ?_|apply zaa))
 all_goals(try apply zab)
 all_goals(try simp only[bn]at *)
 all_goals(try simp only[Ue,LC,aaT,acr]at *)
 all_goals first
  |with_reducible exact ajZ ξ|with_reducible exact ajD ξ|with_reducible exact ajN ξ ξ ξ|with_reducible exact alz ξ ξ ξ|exact zaf⟩
instance ahQ(a:Rat):DenI prog 240 [R a] (rz a<=4000000) (R a):=⟨λhp=>by
 have:RzB a 4000000:=⟨hp⟩
 all_goals refine aS func240 rfl ?_
 all_goals(repeat'((try(conv=>whnf));first
  |refine ak ?_ ?_|apply zaa))
 all_goals(try apply zab)
 all_goals first
  |exact congrArg R (Rat.neg_neg a)|exact zaf⟩
instance aly(a b c d e f:Rat):DenI prog 161 [Q3 a b c,Q3 d e f] (rz a<=20000/\rz b<=20000/\rz c<=20000/\rz d<=20000/\rz e<=20000/\rz f<=20000) (Q6 (a-d) b (-e) 0 c f):=⟨λhp=>by
 have:RzB a 20000:=⟨hp.1⟩
 have:RzB b 20000:=⟨hp.2.1⟩
 have:RzB c 20000:=⟨hp.2.2.1⟩
 have:RzB d 20000:=⟨hp.2.2.2.1⟩
 have:RzB e 20000:=⟨hp.2.2.2.2.1⟩
 have:RzB f 20000:=⟨hp.2.2.2.2.2⟩
 all_goals refine aS func161 rfl ?_
 all_goals(repeat'((try(conv=>whnf));first
  |refine ak ?_ ?_|refine zac ζ ?_|apply zaa))
 all_goals(try apply zab)
 all_goals first
  |rfl|exact zaf|omega⟩
instance ajm(a b c d e f:Rat):DenI prog 158 [Q3 a b c,Q3 d e f] (rz a<=20000/\rz b<=20000/\rz c<=20000/\rz d<=20000/\rz e<=20000/\rz f<=20000) (.tup [.int .i64 (iM (bQ a b c) (bQ d e f)).1,.bool (iM (bQ a b c) (bQ d e f)).2]):=⟨λhp=>by
 have:RzB a 20000:=⟨hp.1⟩
 have:RzB b 20000:=⟨hp.2.1⟩
 have:RzB c 20000:=⟨hp.2.2.1⟩
 have:RzB d 20000:=⟨hp.2.2.2.1⟩
 have:RzB e 20000:=⟨hp.2.2.2.2.1⟩
 have:RzB f 20000:=⟨hp.2.2.2.2.2⟩
 all_goals refine aS func158 rfl ?_
 all_goals(repeat'((try(conv=>whnf));first
  |refine ak ?_ ?_|(with_reducible first|refine aN ?_|refine aI ?_|refine aO (λ_=>?_) (λ_=>?_))|refine zad (λ_=>?_) (λ_=>?_)|apply zaa))
 all_goals(try apply zab)
 all_goals first
  |(refine aiT ?_;simp_all;done)|(refine agq ?_;simp_all;done)|(refine ah5 ?_ ?_ ?_<;>first|assumption|(simp_all;done))|(refine aiC ?_ ?_ ?_ ?_<;>first|assumption|(simp_all;done))|(refine ais ?_ ?_ ?_ ?_<;>first|assumption|(simp_all;done))|exact zaf⟩
instance ajh(a b c d m n:Rat):DenI prog 238 [Q6 a b c d m n] (rz a<=80010/\rz b<=80010/\rz c<=80010/\rz d<=80010/\rz m<=80010/\rz n<=80010) (.tup [.int .i64 (mM a b c d m n).1,.bool (mM a b c d m n).2]):=⟨λhp=>by
 have z_a:=gJ a;have z_b:=gJ b;have z_c:=gJ c;have z_d:=gJ d;have z_m:=gJ m;have z_n:=gJ n;have z1:=Cm z_m;have z2:=Cm z_n;have z3:=oM (gF b) (gS m);have z4:=oM (gF c) (gS n);have z5:=oM (gS m) (gS n);have z6:=oM (gF d) (gK m n);have z7:=tH z_a z3;have z8:=tH z4 z6;have z9:=tH z7 z8;have:RzB a 80010:=⟨hp.1⟩
 have:RzB b 80010:=⟨hp.2.1⟩
 have:RzB c 80010:=⟨hp.2.2.1⟩
 have:RzB d 80010:=⟨hp.2.2.2.1⟩
 have:RzB m 80010:=⟨hp.2.2.2.2.1⟩
 have:RzB n 80010:=⟨hp.2.2.2.2.2⟩
 all_goals refine aS func238 rfl ?_
 all_goals(repeat'((try(conv=>whnf));first
  |refine aC ?_|refine ak ?_ ?_|refine zad (λ_=>?_) (λ_=>?_)|refine zac ζ ?_|apply zaa))
 all_goals(try apply zab)
 all_goals(try simp only[Prod.eta,ZC]at *)
 all_goals first
  |exact iv1 z_m|exact iv1 z_n|exact iv2 z_b z1|exact iv2 z_c z2|exact iv2 z1 z2|exact iv2 z_d z5|exact iv2 z_a z3|exact iv2 z4 z6|exact iv2 z7 z8|(refine amG (λk=>?_);obtain⟨k1,k2,k3,k4,k5,k6,k7,k8,k9,k10,k11,k12,k13,k14,k15⟩:=k;simp_all;done)|(rename_i h;simp only[Bool.not_eq_false',gX]at h;obtain⟨⟨⟨⟨⟨⟨⟨⟨⟨⟨⟨⟨⟨⟨h1,h2⟩,h3⟩,h4⟩,h5⟩,h6⟩,h7⟩,h8⟩,h9⟩,h10⟩,h11⟩,h12⟩,h13⟩,h14⟩,h15⟩:=h;rw[U2 ⟨h1,h2,h3,h4,h5,h6,h7,h8,h9,h10,h11,h12,h13,h14,h15⟩];first|done|rfl)|exact zaf⟩
instance alH(a b:Rat):DenI prog 239 [R a,R b] (rz a<=4000000/\rz b<=4000000) (R (a+b)):=⟨λhp=>by
 have:RzB a 4000000:=⟨hp.1⟩
 have:RzB b 4000000:=⟨hp.2⟩
 all_goals refine aS func239 rfl ?_
 all_goals(repeat'((try(conv=>whnf));first
  |refine ak ?_ ?_|apply zaa))
 all_goals(try apply zab)
 all_goals first
  |rfl|exact zaf⟩
instance aje(a:Rat)(b c d m n:Rat):DenI prog 160 [Q6 a b c d m n] (rz b<=20010/\rz c<=20010/\rz d<=20010/\rz m<=20010/\rz n<=20010/\rz a<=80010/\0<=m/\0<=n) (.int .i64 (C9 a b c d m n)):=⟨λhp=>by
 have:RzB b 20010:=⟨hp.1⟩
 have:RzB c 20010:=⟨hp.2.1⟩
 have:RzB d 20010:=⟨hp.2.2.1⟩
 have:RzB m 20010:=⟨hp.2.2.2.1⟩
 have:RzB n 20010:=⟨hp.2.2.2.2.1⟩
 have hpre:=hp.2.2.2.2.2;have:RzB a 80010:=⟨hpre.1⟩
 obtain⟨_,h_m,h_n⟩:=hpre
 all_goals refine aS func160 rfl ?_
 all_goals(repeat'((try(conv=>whnf));first
  |refine aC ?_|refine ak ?_ ?_|(with_reducible first|refine aN ?_|refine aI ?_|refine aO (λ_=>?_) (λ_=>?_))|refine zad (λ_=>?_) (λ_=>?_)|refine zac ζ ?_|apply zaa))
 all_goals(try apply zab)
 all_goals(try simp only[bn]at *)
 all_goals(try simp only[Ue,LC,aaT,acr]at *)
 all_goals first
  |exact af9 h_m h_n ξ|with_reducible exact akI ξ|with_reducible exact ajI ξ|with_reducible exact akB ξ ξ ξ|with_reducible exact akr ξ ξ ξ|(exfalso;grind)|exact zaf⟩
instance ajO(a b c d e f:Rat):DenI prog 87 [Q3 a b c,Q3 d e f] (rz a<=20000/\rz b<=20000/\rz c<=20000/\rz d<=20000/\rz e<=20000/\rz f<=20000/\0<=c/\0<=f) (.int .i64 (cmp4 a b c d e f)):=⟨λhp=>by
 have:RzB a 20000:=⟨hp.1⟩
 have:RzB b 20000:=⟨hp.2.1⟩
 have:RzB c 20000:=⟨hp.2.2.1⟩
 have:RzB d 20000:=⟨hp.2.2.2.1⟩
 have:RzB e 20000:=⟨hp.2.2.2.2.1⟩
 have:RzB f 20000:=⟨hp.2.2.2.2.2.1⟩
 have hpre:=hp.2.2.2.2.2.2
 all_goals refine aS func87 rfl ?_
 all_goals(repeat'((try(conv=>whnf));first
  |refine aC ?_|refine ak ?_ ?_|(with_reducible first|refine aN ?_|refine aI ?_|refine aO (λ_=>?_) (λ_=>?_))|refine zad (λ_=>?_) (λ_=>?_)|refine zac ζ ?_|apply zaa))
 all_goals(try apply zab)
 all_goals(try simp only[bn]at *)
 all_goals first
  |with_reducible exact alP hpre.1 hpre.2 ξ ξ|with_reducible exact akU hpre.1 hpre.2 ξ|with_reducible exact akc hpre.1 ξ|rfl|exact⟨bF ω,bF ω,bF ω,bF ω,bF ω,bF ω,hpre⟩|exact zaf⟩
instance ai1(a b c d:Rat):DenI prog 131 [Q3 a b c,R d] (rz a<=20000/\rz b<=20000/\rz c<=20000/\rz d<=20000/\0<=c) (.int .i64 (fP (a-d) b c)):=⟨λhp=>by
 have:RzB a 20000:=⟨hp.1⟩
 have:RzB b 20000:=⟨hp.2.1⟩
 have:RzB c 20000:=⟨hp.2.2.1⟩
 have:RzB d 20000:=⟨hp.2.2.2.1⟩
 have hpre:=hp.2.2.2.2
 all_goals refine aS func131 rfl ?_
 all_goals(repeat'((try(conv=>whnf));first
  |refine ak ?_ ?_|refine zac ζ ?_|apply zaa))
 all_goals(try apply zab)
 all_goals first
  |exact iE (N8 hpre)|exact⟨bF ω,bF ω,bF ω,bF ω,fZ Il ω,fZ Il ω,hpre,ψ⟩|exact zaf⟩
instance ahY(X Y Q ax bx ay bb c:Rat):DenI prog 85 [Q3 X Y Q,Q5 ax bx ay bb c] (rz X<=100/\rz Y<=100/\rz Q<=400/\rz ax<=5000/\rz bx<=250/\rz ay<=5000/\rz bb<=250/\rz c<=5000) (.int .i64 (-(fP ((ax-X)*(ax-X)+(ay-Y)*(ay-Y)+c*(bx*bx+bb*bb)-Q) ((ax-X)*bx+(ay-Y)*bb+((ax-X)*bx+(ay-Y)*bb)) c))):=⟨λhp=>by
 obtain⟨q0,q1,q2,q3,q4,q5,q6,q7⟩:=hp;have:RzB X 100:=⟨q0⟩
 have:RzB Y 100:=⟨q1⟩
 have:RzB Q 400:=⟨q2⟩
 have:RzB ax 5000:=⟨q3⟩
 have:RzB bx 250:=⟨q4⟩
 have:RzB ay 5000:=⟨q5⟩
 have:RzB bb 250:=⟨q6⟩
 have:RzB c 5000:=⟨q7⟩
 all_goals refine aS func85 rfl ?_
 all_goals(repeat'((try(conv=>whnf));first
  |refine ak ?_ ?_|refine zad (λ_=>?_) (λ_=>?_)|refine zac ζ ?_|apply zaa))
 all_goals(try apply zab)
 all_goals first
  |(exact ahB ξ (ace ξ) (uV _ _ _).1 (uV _ _ _).2)|(refine ahA ?_;rfl)|exact zaf⟩
instance abJ(a b c:Rat):DenI prog 56 [R a,R b,R c] (rz a<=300000/\rz b<=300000/\rz c<=300000/\0<=c) (.tup [Q3 (dS a b c) (dN b c) (dP b c),.int .i64 0]):=⟨λhp=>by
 have:RzB a 300000:=⟨hp.1⟩
 have:RzB b 300000:=⟨hp.2.1⟩
 have:RzB c 300000:=⟨hp.2.2.1⟩
 have hpre:=hp.2.2.2
 all_goals refine aS func56 rfl ?_
 all_goals(repeat'((try(conv=>whnf));first
  |refine aC ?_|refine ak ?_ ?_|refine aQ ?_ (λ_=>?_) (λ_=>?_)|(with_reducible first|refine aN ?_|refine aI ?_|refine aO (λ_=>?_) (λ_=>?_))|refine zac ζ ?_|apply zaa))
 all_goals(try apply zab)
 all_goals(try simp only[bn]at *)
 all_goals first
  |exact zah|exact zaf|(exfalso;grind)⟩
instance adW(a b c d e f:Rat):DenI prog 325 [Q3 a b c,Q3 d e f] (rz a<=300000/\rz b<=300000/\rz c<=300000/\rz d<=300000/\rz e<=300000/\rz f<=300000/\(b=0\/e=0\/c=f)) (.tup [Q3 (a+d) (bH (b+e) (if b=0 then f else c)) (bM (b+e) (if b=0 then f else c)),.int .i64 0]):=⟨λhp=>by
 have:RzB a 300000:=⟨hp.1⟩
 have:RzB b 300000:=⟨hp.2.1⟩
 have:RzB c 300000:=⟨hp.2.2.1⟩
 have:RzB d 300000:=⟨hp.2.2.2.1⟩
 have:RzB e 300000:=⟨hp.2.2.2.2.1⟩
 have:RzB f 300000:=⟨hp.2.2.2.2.2.1⟩
 have hpre:=hp.2.2.2.2.2.2
 all_goals refine aS func325 rfl ?_
 all_goals(repeat'((try(conv=>whnf));first
  |refine ak ?_ ?_|refine zad (λ_=>?_) (λ_=>?_)|refine zac ζ ?_|apply zaa))
 all_goals(try apply zab)
 all_goals first
  |rfl|exact zaf|(exfalso;simp_all;done)⟩
instance ad3(a b c:Rat):DenI prog 343 [Q3 a b c,Q3 a b c] (rz a<=300000/\rz b<=300000/\rz c<=300000) (.tup [Q3 (a*a+b*b*c) (bH (a*b+b*a) c) (bM (a*b+b*a) c),.int .i64 0]):=⟨λhp=>by
 have:RzB a 300000:=⟨hp.1⟩
 have:RzB b 300000:=⟨hp.2.1⟩
 have:RzB c 300000:=⟨hp.2.2⟩
 all_goals refine aS func343 rfl ?_
 all_goals(repeat'((try(conv=>whnf));first
  |refine ak ?_ ?_|refine zad (λ_=>?_) (λ_=>?_)|refine zac ζ ?_|apply zaa))
 all_goals(try apply zab)
 all_goals(try simp only[bn]at *)
 all_goals first
  |(simp only[ite_self];rfl)|(simp only[ite_self];(repeat' apply And.intro)<;>first|assumption|exact bF ω|exact cO ω|exact bV (ah _) (ah _))|(exfalso;simp_all;done)|omega|exact zaf⟩
instance TQ(a b c:Rat):DenI prog 326 [Q3 a b c] (rz a<=300000/\rz b<=300000/\rz c<=300000) (Q3 (a*a+b*b*c) (bH (a*b+b*a) c) (bM (a*b+b*a) c)):=⟨λhp=>by
 have:RzB a 300000:=⟨hp.1⟩
 have:RzB b 300000:=⟨hp.2.1⟩
 have:RzB c 300000:=⟨hp.2.2⟩
 all_goals refine aS func326 rfl ?_
 all_goals(repeat'((try(conv=>whnf));first
  |refine ak ?_ ?_|apply zaa))
 all_goals(try apply zab)
 all_goals first
  |rfl|exact zaf⟩
instance TK(a b c d:Rat):DenI prog 289 [Q3 a b c,R d] (rz a<=300000/\rz b<=300000/\rz c<=300000/\rz d<=300000) (Q3 (a+d) b c):=⟨λhp=>by
 have:RzB a 300000:=⟨hp.1⟩
 have:RzB b 300000:=⟨hp.2.1⟩
 have:RzB c 300000:=⟨hp.2.2.1⟩
 have:RzB d 300000:=⟨hp.2.2.2⟩
 all_goals refine aS func289 rfl ?_
 all_goals(repeat'((try(conv=>whnf));first
  |refine ak ?_ ?_|refine zac ζ ?_|apply zaa))
 all_goals(try apply zab)
 all_goals first
  |rfl|exact zaf⟩
instance aaV(a b c:Rat):DenI prog 243 [Q3 a b c] (rz a<=4000000/\rz b<=4000000/\rz c<=4000000) (.int .i64 (pq a b c)):=⟨λhp=>by
 have:RzB a 4000000:=⟨hp.1⟩
 have:RzB b 4000000:=⟨hp.2.1⟩
 have:RzB c 4000000:=⟨hp.2.2⟩
 all_goals refine aS func243 rfl ?_
 all_goals(repeat'((try(conv=>whnf));first
  |refine aC ?_|refine ak ?_ ?_|(with_reducible first|refine aN ?_|refine aI ?_|refine aO (λ_=>?_) (λ_=>?_))|refine zac ζ ?_|apply zaa))
 all_goals(try apply zab)
 all_goals(try simp only[bn]at *)
 all_goals first
  |with_reducible exact alY ξ|with_reducible exact alm ξ|with_reducible exact akw ξ ξ ξ|with_reducible exact alu ξ ξ ξ ξ|with_reducible exact akE ξ ξ ξ ξ|exact zaf⟩
end Go.Proofs.YtdpkjhnfklkkjaaGreat
namespace Go.Sw
inductive Knd where
 |ln|cc|cw
deriving DecidableEq
def sgI(n:Int):Int:=min 1 (max (-1) n)
section
variable {α:Type} (o:α->α->Int) (e:α->α->Bool)
def Zu(f p:α):Int:=if o p f=0 then 0 else if 0<o p f then 1 else 2
def LJ(f p q:α):Int:=if Zu o f p=Zu o f q then sgI (o p q)else sgI (Zu o f p-Zu o f q)
def SG(k:Knd)(f t p:α):Bool:=match k with
 |.ln=>decide (o f p=0)||decide (o p t=0)||decide (o f p=o p t)
 |.cc=>decide (LJ o f p t<=0)
 |.cw=>decide (LJ o t p f<=0)
def odA(k:Knd)(f t p q:α):Int:=match k with
 |.ln=>o p q*o t f
 |.cc=>LJ o f p q
 |.cw=>-LJ o t p q
def tu(c:α->α->Int)(x:α):List α->List α
 |[]=>[x]
 |y::r=>if c x y<0 then y::tu c x r else x::y::r
def AB(c:α->α->Int)(l:List α):List α:=(l.foldl (λa x=>tu c x a) []).reverse
def Dp(p:α):List α->List α
 |[]=>[]
 |b::r=>if e b p then Dp b r else b::Dp b r
def xI:List α->List α
 |[]=>[]
 |a::r=>a::Dp e a r
def D9(k:Knd)(f t:α)(l:List α):List α:=xI e (AB (odA o k f t) l)
def Tn(f0 t0:α):α->List α->List (α×α)
 |cur,[]=>[(cur,t0)]
 |cur,p::r=>if e p f0||e p t0 then Tn f0 t0 cur r else(cur,p)::Tn f0 t0 p r
def Ap(k:Knd)(f t:α)(l:List α):List (α×α):=Tn e f t f (D9 o e k f t l)
def cvA(kd:Knd)(df dt:α)(kp:Knd)(pf pt:α):Bool:=SG o kd df dt pf&&SG o kd df dt pt&&(match kd with
 |.ln=>true
 |_ =>
  let t:=if kd=.cw then df else dt
  let u:=if kp=.cw then pt else pf
  let v:=if kp=.cw then pf else pt
  !e u t&&decide (LJ o u v t<=0))
def mtL(kc:Knd)(cf ct:α)(kd:Knd)(df dt:α)(c:List α):List α:=D9 o e kc cf ct (c.filter λp=>SG o kc cf ct p&&SG o kd df dt p)
def ovA(kc:Knd)(cf ct:α)(kd:Knd)(df dt:α)(l:List α):Bool:=(Ap o e kc cf ct l).any λp=>cvA o e kd df dt kc p.1 p.2
def eqA(kc:Knd)(cf ct:α)(kd:Knd)(df dt:α):Bool:=decide (kc=kd)&&(e cf df&&e ct dt)
def rvK:Knd->Knd
 |.ln => .ln
 |.cc => .cw
 |.cw => .cc
def mtS(kc:Knd)(cf ct:α)(kd:Knd)(df dt:α):List α:=mtL o e kc cf ct kd df dt [cf,ct,df,dt]
def ovS(kc:Knd)(cf ct:α)(kd:Knd)(df dt:α):Bool:=ovA o e kc cf ct kd df dt (mtS o e kc cf ct kd df dt)
def acA(kc:Knd)(a:α×α)(kd:Knd)(b:α×α):Bool:=eqA e kc a.1 a.2 kd b.1 b.2||eqA e kc a.1 a.2 (rvK kd) b.2 b.1
def ES(kc:Knd)(cf ct:α)(kd:Knd)(df dt:α):Bool :=
 let l:=mtS o e kc cf ct kd df dt
 let m:=mtS o e kd df dt kc cf ct
 let x:=Ap o e kc cf ct l
 let y:=Ap o e kd df dt l
 (ovS o e kc cf ct kd df dt == ovS o e kd df dt kc cf ct)&&decide (l.length=m.length) &&
 l.all (λp=>m.any (λq=>e p q)&&SG o kc cf ct p&&SG o kd df dt p) &&
 x.all (λa=>y.all λb=>(ovS o e kc a.1 a.2 kd b.1 b.2 == acA e kc a kd b)&&(mtS o e kc a.1 a.2 kd b.1 b.2).all λq=>(e q a.1||e q a.2)&&(e q b.1||e q b.2)) &&
 (x.any (λa=>y.any λb=>acA e kc a kd b) == ovS o e kc cf ct kd df dt)
end
def TV(i j:Nat):Int:=if i<j then -1 else if j<i then 1 else 0
def RF(r:List Nat)(i j:Fin 4):Int:=TV (r.getD i.val 0) (r.getD j.val 0)
def rkE(r:List Nat)(i j:Fin 4):Bool:=Nat.beq (r.getD i.val 0) (r.getD j.val 0)
def R4:List (List Nat):=[0,1,2,3].flatMap λa=>[0,1,2,3].flatMap λb=>[0,1,2,3].flatMap λc=>[0,1,2,3].map λd=>[a,b,c,d]
def okR(r:List Nat):Bool:=!Nat.beq (r.getD 0 0) (r.getD 1 0) && !Nat.beq (r.getD 2 0) (r.getD 3 0)
theorem abb:(R4.all λr=>!okR r||ES (RF r) (rkE r) .ln 0 1 .ln 2 3)=true:=by decide +kernel
theorem ab8:(R4.all λr=>!okR r || [Knd.cc,Knd.cw].all λk=>[Knd.cc,Knd.cw].all λj=>ES (RF r) (rkE r) k 0 1 j 2 3)=true:=by decide +kernel
def Nc{α:Type}(o:α->α->Int)(e:α->α->Bool)(k:Knd)(f t:α)(qs l:List α):Bool :=
 (Ap o e k f t l).all λa=>qs.all λq=>!SG o k a.1 a.2 q ||(SG o k f t q&&(!l.any (λp=>e q p) ||(e q a.1||e q a.2)))
def subs2:List (List (Fin 4)):=[[],[2],[3],[2,3],[3,2]]
theorem VY:(R4.all λr=>Nat.beq (r.getD 0 0) (r.getD 1 0) || [Knd.ln,Knd.cc,Knd.cw].all λk=>subs2.all λl=>!(l.all λp=>SG (RF r) k 0 1 p)||Nc (RF r) (rkE r) k 0 1 [2,3] l)=true:=by decide +kernel
structure OrdA {α:Type} (o:α->α->Int):Prop where
 anti:∀a b,o b a = -(o a b)
 val:∀a b,o a b = -1\/o a b=0\/o a b=1
 tr:∀a b c,o a b<=0->o b c<=0->o a c<=0/\(o a b<0\/o b c<0->o a c<0)
def f4{α:Type}(a b c d:α):Fin 4->α
 |0=>a
 |1=>b
 |2=>c
 |3=>d
section
variable {α:Type} {o:α->α->Int} (h:OrdA o)
include h
theorem OrdA.refl(a:α):o a a=0:=by have:=h.anti a a;omega
theorem cnt_le{p q:α->Bool}(l:List α)(hpq:∀x,p x=true->q x=true):(l.filter p).length<=(l.filter q).length:=by
 clear h;induction l with
 |nil=>exact jg _
 |cons x r ih =>
  simp only[List.filter_cons];cases hp:p x with
  |true=>rw[hpq x hp];simp;exact ih
  |false=>cases hq:q x<;>simp<;>omega
theorem cnt_lt{p q:α->Bool}(l:List α)(hpq:∀x,p x=true->q x=true){a:α}(ha:a∈l)(h1:p a=false)(h2:q a=true):(l.filter p).length<(l.filter q).length:=by
 induction l with
 |nil=>cases ha
 |cons x r ih =>
  simp only[List.filter_cons];rcases jA.1 ha with e|ha
  .subst e;rw[h1,h2];have:=cnt_le h r hpq;simp;omega
  .have:=ih ha;cases hp:p x with
   |true=>rw[hpq x hp];simp;exact this
   |false=>cases hq:q x<;>simp<;>omega
def zS(o:α->α->Int)(l:List α)(a:α):Nat:=(l.filter λx=>decide (o x a<0)).length
theorem aeL{l:List α}{a b:α}(ha:a∈l)(hb:b∈l):o a b=TV (zS o l a) (zS o l b):=by
 have hlt:∀a b,a∈l->o a b<0->zS o l a<zS o l b:=λa b ha hab=>by
  refine cnt_lt h l (λx hx=>?_) ha (by rw[h.refl];decide) (decide_eq_true hab);have hx:=of_decide_eq_true hx;exact decide_eq_true ((h.tr x a b ω ω).2 (.inl hx))
 unfold TV;rcases h.val a b with e|e|e
 .rw[if_pos (hlt a b ha ω),e]
 .have e2:o b a=0:=by have:=h.anti a b;omega
  have h1:zS o l a<=zS o l b:=cnt_le h l λx hx=>by
   have hx:=of_decide_eq_true hx;exact decide_eq_true ((h.tr x a b ω ω).2 (.inl hx))
  have h2:zS o l b<=zS o l a:=cnt_le h l λx hx=>by
   have hx:=of_decide_eq_true hx;exact decide_eq_true ((h.tr x b a ω ω).2 (.inl hx))
  rw[if_neg ω,if_neg ω,e]
 .have:=hlt b a hb (by have:=h.anti a b;omega);rw[if_neg ω,if_pos this,e]
theorem PG{l:List α}{a:α}(ha:a∈l):zS o l a<l.length:=by
 have:=cnt_lt h l (p:=λx=>decide (o x a<0)) (q:=λ_=>true) (λ_ _=>rfl) ha (by rw[h.refl];decide) rfl;rw[List.filter_eq_self.2 (λ_ _=>rfl)]at this;exact this
theorem ac8(a b c d:α):∃r∈R4,∀i j:Fin 4,o (f4 a b c d i) (f4 a b c d j)=RF r i j:=by
 have hm:∀i,f4 a b c d i∈[a,b,c,d]:=λi=>by
  match i with
  |0=>simp[f4]
  |1=>simp[f4]
  |2=>simp[f4]
  |3=>simp[f4]
 refine⟨[zS o [a,b,c,d] a,zS o [a,b,c,d] b,zS o [a,b,c,d] c,zS o [a,b,c,d] d], ?_,λi j=>?_⟩
 .have h4:∀n,n<4->n∈[0,1,2,3]:=λn hn=>by
   match n,hn with
   |0,_=>simp
   |1,_=>simp
   |2,_=>simp
   |3,_=>simp
  unfold R4;refine List.mem_flatMap.2 ⟨_,h4 _ (PG h (l:=[a,b,c,d]) (a:=a) η),List.mem_flatMap.2 ⟨_,h4 _ (PG h (l:=[a,b,c,d]) (a:=b) η),List.mem_flatMap.2 ⟨_,h4 _ (PG h (l:=[a,b,c,d]) (a:=c) η),iV.2 ⟨_,h4 _ (PG h (l:=[a,b,c,d]) (a:=d) η),rfl⟩⟩⟩⟩
 .rw[aeL h (hm i) (hm j)]
  match i,j with
  |0,0=>rfl
  |0,1=>rfl
  |0,2=>rfl
  |0,3=>rfl
  |1,0=>rfl
  |1,1=>rfl
  |1,2=>rfl
  |1,3=>rfl
  |2,0=>rfl
  |2,1=>rfl
  |2,2=>rfl
  |2,3=>rfl
  |3,0=>rfl
  |3,1=>rfl
  |3,2=>rfl
  |3,3=>rfl
end
section
variable {α β:Type} (o:α->α->Int) (e:α->α->Bool) (f:β->α)
theorem Qn(c:α->α->Int)(x:β):∀l:List β,tu c (f x) (l.map f)=(tu (λi j=>c (f i) (f j)) x l).map f
 |[]=>rfl
 |y::r=>by
  simp only[xZ,tu];split
  .rw[xZ,Qn c x r]
  .rfl
theorem acu(c:α->α->Int)(l:List β):AB c (l.map f)=(AB (λi j=>c (f i) (f j)) l).map f:=by
 unfold AB;rw[List.map_reverse];congr 1
 have:∀(l:List β) (a:List β),(l.map f).foldl (λa x=>tu c x a) (a.map f)=(l.foldl (λa x=>tu (λi j=>c (f i) (f j)) x a) a).map f:=by
  intro l;induction l with
  |nil=>intro a;rfl
  |cons x r ih=>intro a;rw[xZ,Na,Na,Qn,ih]
 exact this l []
theorem Jo(p:β):∀l:List β,Dp e (f p) (l.map f)=(Dp (λi j=>e (f i) (f j)) p l).map f
 |[]=>rfl
 |b::r=>by
  simp only[xZ,Dp];split
  .exact Jo b r
  .rw[xZ,Jo b r]
theorem aeS(l:List β):xI e (l.map f)=(xI (λi j=>e (f i) (f j)) l).map f:=by
 cases l with
 |nil=>rfl
 |cons a r=>simp only[xZ,xI,Jo]
theorem Zo(k:Knd)(a b:β)(l:List β):D9 o e k (f a) (f b) (l.map f)=(D9 (λi j=>o (f i) (f j)) (λi j=>e (f i) (f j)) k a b l).map f:=by
 unfold D9;rw[acu,aeS];cases k<;>rfl
theorem Nj(a b:β):∀(l:List β) (c:β),Tn e (f a) (f b) (f c) (l.map f)=(Tn (λi j=>e (f i) (f j)) a b c l).map λp=>(f p.1,f p.2)
 |[],c=>rfl
 |p::r,c=>by
  simp only[xZ,Tn];split
  .exact Nj a b r c
  .rw[xZ,Nj a b r p]
theorem H8(k:Knd)(a b:β)(l:List β):Ap o e k (f a) (f b) (l.map f)=(Ap (λi j=>o (f i) (f j)) (λi j=>e (f i) (f j)) k a b l).map λp=>(f p.1,f p.2):=by
 unfold Ap;rw[Zo,Nj]
theorem aad(kc:Knd)(a b:β)(kd:Knd)(c d:β)(l:List β):mtL o e kc (f a) (f b) kd (f c) (f d) (l.map f)=(mtL (λi j=>o (f i) (f j)) (λi j=>e (f i) (f j)) kc a b kd c d l).map f:=by
 unfold mtL;rw[List.filter_map,Zo];congr 2
theorem Pn(kc:Knd)(a b:β)(kd:Knd)(c d:β):mtS o e kc (f a) (f b) kd (f c) (f d)=(mtS (λi j=>o (f i) (f j)) (λi j=>e (f i) (f j)) kc a b kd c d).map f:=aad o e f kc a b kd c d [a,b,c,d]
theorem aco(kc:Knd)(a b:β)(kd:Knd)(c d:β):ovS o e kc (f a) (f b) kd (f c) (f d)=ovS (λi j=>o (f i) (f j)) (λi j=>e (f i) (f j)) kc a b kd c d:=by
 unfold ovS ovA;rw[Pn,H8,List.any_map];cases kc<;>cases kd<;>rfl
theorem PX(kc:Knd)(a b:β)(kd:Knd)(c d:β):ES o e kc (f a) (f b) kd (f c) (f d)=ES (λi j=>o (f i) (f j)) (λi j=>e (f i) (f j)) kc a b kd c d:=by
 unfold ES;simp only[Pn,aco,H8,bW,List.all_map,List.any_map,Function.comp_def];rfl
theorem KW(k:Knd)(a b:β)(qs l:List β):Nc o e k (f a) (f b) (qs.map f) (l.map f)=Nc (λi j=>o (f i) (f j)) (λi j=>e (f i) (f j)) k a b qs l:=by
 unfold Nc;simp only[H8,List.all_map,List.any_map];rfl
end
section
variable {α:Type} {o:α->α->Int} {e:α->α->Bool}
theorem e4(h:OrdA o){a b c d:α}(he:∀x∈[a,b,c,d],∀y∈[a,b,c,d],e x y=decide (o x y=0)){r:List Nat}(hr:∀i j:Fin 4,o (f4 a b c d i) (f4 a b c d j)=RF r i j):
 (λi j=>e (f4 a b c d i) (f4 a b c d j))=rkE r:=by
 have hm:∀i,f4 a b c d i∈[a,b,c,d]:=λi=>by
  match i with
  |0=>simp[f4]
  |1=>simp[f4]
  |2=>simp[f4]
  |3=>simp[f4]
 funext i j
 rw[he _ (hm i) _ (hm j),hr i j];unfold RF rkE TV;rw[Bool.eq_iff_iff,decide_eq_true_iff,Nat.beq_eq];constructor
 .intro g;split at g
  .cases g
  .split at g
   .cases g
   .omega
 .intro g;rw[if_neg ω,if_neg ω]
theorem ok4{a b c d:α}{r:List Nat}(hr:∀i j:Fin 4,o (f4 a b c d i) (f4 a b c d j)=RF r i j)(h1:o a b≠0):Nat.beq (r.getD 0 0) (r.getD 1 0)=false:=by
 rw[Bool.eq_false_iff];intro g;have g:=jX g;refine h1 ?_;have:=hr 0 1;show o (f4 a b c d 0) (f4 a b c d 1)=0;rw[this];unfold RF TV;rw[if_neg (by show¬ r.getD 0 0<r.getD 1 0;omega),if_neg (by show¬ r.getD 1 0<r.getD 0 0;omega)]
theorem alN{a b c d:α}{r:List Nat}(hr:∀i j:Fin 4,o (f4 a b c d i) (f4 a b c d j)=RF r i j)(h1:o c d≠0):Nat.beq (r.getD 2 0) (r.getD 3 0)=false:=by
 rw[Bool.eq_false_iff];intro g;have g:=jX g;refine h1 ?_;have:=hr 2 3;show o (f4 a b c d 2) (f4 a b c d 3)=0;rw[this];unfold RF TV;rw[if_neg (by show¬ r.getD 2 0<r.getD 3 0;omega),if_neg (by show¬ r.getD 3 0<r.getD 2 0;omega)]
theorem abK(h:OrdA o){a b c d:α}(he:∀x∈[a,b,c,d],∀y∈[a,b,c,d],e x y=decide (o x y=0))(h1:o a b≠0)(h2:o c d≠0){kc kd:Knd}(hk:kc=.ln↔kd=.ln):ES o e kc a b kd c d=true:=by
 obtain⟨r,hR,hr⟩:=ac8 h a b c d;have he2:=e4 h he hr;have ho2:(λi j=>o (f4 a b c d i) (f4 a b c d j))=RF r:=by funext i j;exact hr i j
 have hm:=PX o e (f4 a b c d) kc 0 1 kd 2 3;rw[he2,ho2]at hm;show ES o e kc (f4 a b c d 0) (f4 a b c d 1) kd (f4 a b c d 2) (f4 a b c d 3)=true;rw[hm]
 have hok:(!okR r)=false:=by
  unfold okR;rw[ok4 hr h1,alN hr h2];rfl
 by_cases hl:kc=.ln
 .have hl2:=hk.1 hl;subst hl hl2;have:=oH.1 abb r hR;rw[hok,eX]at this;exact this
 .have hl2:kd ≠ .ln:=λg=>hl (hk.2 g)
  have:=oH.1 ab8 r hR;rw[hok,eX]at this;have h3:=oH.1 this kc (by cases kc<;>simp at hl ⊢);exact oH.1 h3 kd (by cases kd<;>simp at hl2 ⊢)
theorem aan(h:OrdA o){f t p q:α}(he:∀x∈[f,t,p,q],∀y∈[f,t,p,q],e x y=decide (o x y=0))(h1:o f t≠0)(k:Knd){s:List (Fin 4)}(hs:s∈subs2)(hl:∀x∈s.map (f4 f t p q),SG o k f t x=true):
 Nc o e k f t [p,q] (s.map (f4 f t p q))=true:=by
 obtain⟨r,hR,hr⟩:=ac8 h f t p q;have he2:=e4 h he hr;have ho2:(λi j=>o (f4 f t p q i) (f4 f t p q j))=RF r:=by funext i j;exact hr i j
 have hm:=KW o e (f4 f t p q) k 0 1 [2,3] s;rw[he2,ho2]at hm;show Nc o e k (f4 f t p q 0) (f4 f t p q 1) ([2,3].map (f4 f t p q)) (s.map (f4 f t p q))=true;rw[hm];have:=oH.1 VY r hR;rw[ok4 hr h1,eX]at this;have h2:=oH.1 this k (by cases k<;>simp);have h3:=oH.1 h2 s hs
 have hal:(s.all λp=>SG (RF r) k 0 1 p)=true:=by
  rw[oH];intro x hx;have:=hl _ (List.mem_map_of_mem (f:=f4 f t p q) hx);rw[<-ho2];exact this
 rw[hal]at h3;exact h3
end
open Go
theorem fD{b c:Rat}(hc:0<=c):0<=bC b c:=by unfold bC;split<;>first|exact Rat.le_refl|assumption
theorem Ik(a b c:Rat)(n:Nat):v2 a b (bC b c) n=a+b*nK c n:=by
 unfold v2 bC
 by_cases hb:b=0
 .subst hb;rw[if_pos rfl];grind
 .rw[if_neg hb]
theorem NulS.cmul{f:Nat->Rat}(h:NulS f)(q:Rat):NulS λn=>f n*q:=NulS.mul h (Cau.const q).bnd
theorem FH{a b c d e f x y z:Rat}(hc:0<=c)(hf:0<=f)(hz:0<=z)(h1:cmp4 a b c d e f<=0)(h2:cmp4 d e f x y z<=0):
 cmp4 a b c x y z<=0/\(cmp4 a b c d e f<0\/cmp4 d e f x y z<0->cmp4 a b c x y z<0):=by
 have s1:=lY (a:=a) (b:=b) (d:=d) (e:=e) hc hf;have s2:=lY (a:=d) (b:=e) (d:=x) (e:=y) hf hz;have s3:=lY (a:=a) (b:=b) (d:=x) (e:=y) hc hz
 have key:∀m n:Int,SgS (λn=>v2 a b c n-v2 d e f n) m->SgS (λn=>v2 d e f n-v2 x y z n) n->(m = -1\/m=0)->(n = -1\/n=0)->SgS (λn=>v2 a b c n-v2 x y z n) (if m = -1\/n = -1 then -1 else 0):=by
  intro m n k1 k2 hm hn;have e0:∀i,(v2 a b c i-v2 d e f i)+(v2 d e f i-v2 x y z i)=v2 a b c i-v2 x y z i:=λi=>by grind
  rcases hm with rfl|rfl
  .rcases hn with rfl|rfl
   .rw[if_pos (.inl rfl)];exact(k1.same k2).cg e0
   .rw[if_pos (.inl rfl)];exact(k1.nadd k2.nul).cg e0
  .rcases hn with rfl|rfl
   .rw[if_pos (.inr rfl)];exact(k2.nadd k1.nul).cg λi=>by have:=e0 i;grind
   .rw[if_neg ψ];exact(k1.nadd k2.nul).cg e0
 have l1:=s1.lim;have l2:=s2.lim;have:=s3.uniq (key _ _ s1 s2 ω ω);rw[this];split<;>omega
theorem Vq{q:Rat}(h:0<q):bD q=1:=by
 rcases fF q with⟨a,e⟩|⟨a,e⟩|⟨a,e⟩<;>first|exact e|(exfalso;grind)
theorem ag3{b c:Rat}(hc:0<=c):0<=dP b c:=by
 unfold dP bM
 repeat' split
 all_goals first|exact Rat.le_refl|assumption
end Go.Sw
namespace Go.Sw
structure Pnt where
 ax:Rat
 bx:Rat
 ay:Rat
 bb:Rat
 c:Rat
deriving DecidableEq
def jl(x y:Rat):Pnt:=⟨x,0,y,0,0⟩
def pX(p:Pnt)(n:Nat):Rat:=p.ax+p.bx*nK p.c n
def pY(p:Pnt)(n:Nat):Rat:=p.ay+p.bb*nK p.c n
def cX(p q:Pnt):Int:=cmp4 p.ax p.bx (bC p.bx p.c) q.ax q.bx (bC q.bx q.c)
def cY(p q:Pnt):Int:=cmp4 p.ay p.bb (bC p.bb p.c) q.ay q.bb (bC q.bb q.c)
def kH(p q:Pnt):Int:=if cX p q=0 then cY p q else cX p q
theorem LY{p q:Pnt}(hp:0<=p.c)(hq:0<=q.c):SgS (λn=>pX p n-pX q n) (cX p q) :=
 (lY (a:=p.ax) (b:=p.bx) (d:=q.ax) (e:=q.bx) (fD hp) (fD hq)).cg λn=>by rw[Ik,Ik];rfl
theorem PO{p q:Pnt}(hp:0<=p.c)(hq:0<=q.c):SgS (λn=>pY p n-pY q n) (cY p q) :=
 (lY (a:=p.ay) (b:=p.bb) (d:=q.ay) (e:=q.bb) (fD hp) (fD hq)).cg λn=>by rw[Ik,Ik];rfl
theorem OX{p:Pnt}(hp:0<=p.c):Cau (pX p):=(Cau.const p.ax).add ((Cau.const p.bx).mul (jO hp))
theorem OV{p:Pnt}(hp:0<=p.c):Cau (pY p):=(Cau.const p.ay).add ((Cau.const p.bb).mul (jO hp))
abbrev yg:={p:Pnt // 0<=p.c}
theorem cX_ord:OrdA (λa b:yg=>cX a.1 b.1) :=
 ⟨λa b=>Ej (fD a.2) (fD b.2),λa b=>by have:=(LY a.2 b.2).lim;omega,λa b c h1 h2=>FH (fD a.2) (fD b.2) (fD c.2) h1 h2⟩
theorem cY_ord:OrdA (λa b:yg=>cY a.1 b.1) :=
 ⟨λa b=>Ej (fD a.2) (fD b.2),λa b=>by have:=(PO a.2 b.2).lim;omega,λa b c h1 h2=>FH (fD a.2) (fD b.2) (fD c.2) h1 h2⟩
theorem OrdA.cong{α:Type}{o:α->α->Int}(h:OrdA o){a b:α}(e:o a b=0)(c:α):o a c=o b c/\o c a=o c b:=by
 have e2:o b a=0:=by have:=h.anti a b;omega
 have h1:=h.tr a b c;have h2:=h.tr b a c;have h3:=h.tr c a b;have h4:=h.tr c b a;have v1:=h.val a c;have v2:=h.val b c;have a1:=h.anti a c;have a2:=h.anti b c;omega
theorem OrdA.lex{α:Type}{o u:α->α->Int}(h:OrdA o)(k:OrdA u):OrdA λa b=>if o a b=0 then u a b else o a b:=by
 refine⟨λa b=>?_,λa b=>?_,λa b c=>?_⟩
 .have h1:=h.anti a b;have h2:=k.anti a b;split<;>split<;>omega
 .have h1:=h.val a b;have h2:=k.val a b;split<;>omega
 .have h1:=h.tr a b c;have h2:=k.tr a b c;have v1:=h.val a b;have v2:=h.val b c;have v3:=h.val a c;have a1:=h.tr c b a;have b1:=h.anti a b;have b2:=h.anti b c;have b3:=h.anti a c;intro g1 g2;split at g1<;>split at g2<;>split<;>(try split)<;>(try split)<;>omega
theorem pcm_ord:OrdA (λa b:yg=>kH a.1 b.1):=cX_ord.lex cY_ord
def oG(o p:Pnt):Int:=if 0<cY p o\/(cY p o=0/\0<cX p o)then 0 else 1
def E5(o p q:Pnt):Int:=if oG o p=oG o q then(if oG o p=0 then -(cX p q)else cX p q)else oG o p-oG o q
theorem mY(o p:Pnt):oG o p=0\/oG o p=1:=by unfold oG;split<;>simp
theorem aci(o:Pnt):OrdA (λa b:yg=>E5 o a.1 b.1):=by
 refine⟨λa b=>?_,λa b=>?_,λa b c=>?_⟩
 .have h1:cX b.1 a.1 = -(cX a.1 b.1):=cX_ord.anti a b;unfold E5;have v1:=mY o a.1;have v2:=mY o b.1;split<;>split<;>(try split)<;>(try split)<;>omega
 .have h1:cX a.1 b.1 = -1\/cX a.1 b.1=0\/cX a.1 b.1=1:=cX_ord.val a b;unfold E5;have v1:=mY o a.1;have v2:=mY o b.1;split<;>(try split)<;>omega
 .have h1:=cX_ord.tr a b c;have h2:=cX_ord.tr c b a;have b1:cX b.1 a.1 = -(cX a.1 b.1):=cX_ord.anti a b;have b2:cX c.1 b.1 = -(cX b.1 c.1):=cX_ord.anti b c;have b3:cX c.1 a.1 = -(cX a.1 c.1):=cX_ord.anti a c;unfold E5;have v1:=mY o a.1;have v2:=mY o b.1;have v3:=mY o c.1;rcases v1 with v1|v1<;>rcases v2 with v2|v2<;>rcases v3 with v3|v3<;>simp only[v1,v2,v3]<;>simp<;>omega
def inS(X Y Q:Rat)(p:Pnt):Int:=fP ((p.ax-X)*(p.ax-X)+(p.ay-Y)*(p.ay-Y)+p.c*(p.bx*p.bx+p.bb*p.bb)-Q) ((p.ax-X)*p.bx+(p.ay-Y)*p.bb+((p.ax-X)*p.bx+(p.ay-Y)*p.bb)) p.c
theorem zN{X Y Q:Rat}{p:Pnt}(hp:0<=p.c):SgS (λn=>(pX p n-X)*(pX p n-X)+(pY p n-Y)*(pY p n-Y)-Q) (inS X Y Q p):=by
 refine(FC hp).near (((CG hp).cmul (p.bx*p.bx+p.bb*p.bb)).cg λn=>?_);unfold pX pY v2
 grind
theorem ZV{u v:Nat->Rat}(hu:Cau u)(hv:Cau v){a b d:Int}(ha:SgS u a)(hb:SgS v b)(hs:(0<=a/\0<=b)\/(a<=0/\b<=0))(hn:NulS λn=>u n*u n-v n*v n)(hd:SgS (λn=>u n-v n) d):d=0:=by
 obtain⟨s,h1⟩:=SgS.ex (hu.add hv);have h2:=SgS.mul (hu.sub hv) (hu.add hv) hd h1;have h3:d*s=0:=h2.uniq (SgS.of_nul (hn.cg λn=>by grind));rcases Int.mul_eq_zero.1 h3 with h|h
 .exact h
 .subst h;have h4:SgS u (-b):=(hb.neg.nadd h1.nul).cg λn=>by grind
  have h5:=ha.uniq h4;have h6:a=0/\b=0:=ω
  obtain⟨h6,h7⟩:=h6;subst h6 h7;exact hd.uniq (SgS.of_nul (ha.nul.sub hb.nul))
theorem agG{X Y Q:Rat}{p q:Pnt}(hp:0<=p.c)(hq:0<=q.c)(h1:inS X Y Q p=0)(h2:inS X Y Q q=0):E5 (jl X Y) p q=0↔kH p q=0:=by
 have ho:(0:Rat)<=(jl X Y).c:=Rat.le_refl
 have key:cX p q=0->oG (jl X Y) p=oG (jl X Y) q->cY p q=0:=λhx hh=>by
  have hf1:cY p (jl X Y)=0->cY q (jl X Y)=0->True:=λ_ _=>trivial
  have su:=(PO hp ho).cg (g:=λn=>pY p n-Y) λn=>by unfold pY jl;grind
  have sv:=(PO hq ho).cg (g:=λn=>pY q n-Y) λn=>by unfold pY jl;grind
  have l1:=su.lim;have l2:=sv.lim
  have hs:(0<=cY p (jl X Y)/\0<=cY q (jl X Y))\/(cY p (jl X Y)<=0/\cY q (jl X Y)<=0):=by
   unfold oG at hh;split at hh<;>split at hh<;>omega
  have sx:=LY hp hq;rw[hx]at sx;have n1:=zN (X:=X) (Y:=Y) (Q:=Q) hp;have n2:=zN (X:=X) (Y:=Y) (Q:=Q) hq;rw[h1]at n1;rw[h2]at n2;have hb:Cau λn=>pX p n-X+(pX q n-X):=((OX hp).sub (Cau.const X)).add ((OX hq).sub (Cau.const X))
  have hn:NulS λn=>(pY p n-Y)*(pY p n-Y)-(pY q n-Y)*(pY q n-Y):=((n1.nul.sub n2.nul).sub (NulS.mul sx.nul hb.bnd)).cg λn=>by grind
  exact ZV ((OV hp).sub (Cau.const Y)) ((OV hq).sub (Cau.const Y)) su sv hs hn ((PO hp hq).cg λn=>by grind)
 constructor
 .intro h;unfold E5 at h;have v1:=mY (jl X Y) p;have v2:=mY (jl X Y) q;split at h
  .rename_i hh;have hx:cX p q=0:=by split at h<;>omega
   unfold kH;rw[if_pos hx];exact key hx hh
  .omega
 .intro h;unfold kH at h;have hx:cX p q=0:=by split at h<;>omega
  rw[if_pos hx]at h;have e1:=(cX_ord.cong (a:=⟨p,hp⟩) (b:=⟨q,hq⟩) hx ⟨jl X Y,ho⟩).1;have e2:=(cY_ord.cong (a:=⟨p,hp⟩) (b:=⟨q,hq⟩) h ⟨jl X Y,ho⟩).1;replace e1:cX p (jl X Y)=cX q (jl X Y):=e1;replace e2:cY p (jl X Y)=cY q (jl X Y):=e2;unfold E5;have hh:oG (jl X Y) p=oG (jl X Y) q:=by unfold oG;rw[e1,e2]
  rw[if_pos hh,hx];simp
end Go.Sw
