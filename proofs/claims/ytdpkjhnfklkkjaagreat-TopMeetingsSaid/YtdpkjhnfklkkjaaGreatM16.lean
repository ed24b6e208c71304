/-
  Rules of the abstract run, plain laws, and what functions answer, for the law TopMeetings.
  Conditions: none.
-/
import Derived.Test.YtdpkjhnfklkkjaaGreatM15
import Derived.Laws.CopyRow
import Derived.Shelf.Spec.SlicesGrow
import Derived.Shelf.SlicesE.Clone
set_option linter.all false
namespace Go.Sw
open Go Go.RowKit Go.Lib
section
variable {P:Program} {w:World} {ρ:Operand->Value} {d:Option Tmp} {ty:TypeId} {pos:String} {af:Array Edge} {gd:Option (Nat × Bool)}
theorem qw{t e:TypeId}{s:Nat}{x y:Operand}{g n c:Nat}{k:IntKind}{i:Int}{j:Nat}(ht:sliceOf P t=some (e,s))(hx:ρ x=.slice (some ⟨g,0,none⟩) n c)(hy:ρ y=.int k i)(hi:i=(j:Nat))(h1:j<n)(h2:n<=c):
 (execOp ρ ⟨d,.slice t x (some y) none none,ty,pos,af,gd⟩).run P w=.ok (.value (.slice (some ⟨g,j*s,none⟩) (n-j) (c-j))) w:=by
 subst hi
 have hb:(Instr.sliceBounds true n c (some (.int k (j:Int))) none none).run P w=.ok (j,n,c) w:=by
  simp[Instr.sliceBounds,run_sliceBound,Nat.le_of_lt h1]
 have hne:¬c=j:=ω
 simp[execOp,hx,hy,jS ht hb,sliced,hne,Addr.add_lit]
theorem yX{t e:TypeId}{z:Value}{s:Nat}(ht:P.underlying t=some (.slice e))(hz:∀w,(zeroValue e).run P w=.ok z w)(hzs:z.cells.size=s)(h1:∀v∈z.cells.toList,v.oneCell'=true){g o n c:Nat}{cs:Array Value}{T:TypeId}(hg:w.heap[g]?=some (.cells cs T (0,0)))(hn:0<n)(hb:o+n*s<=cs.size):
 ∃vs:List Value,vs.length=n*s/\(Builtin.clear_ #[t] ty #[.slice (some ⟨g,o,none⟩) n c]).run P w=.ok (.tuple #[]) (w.setRow g (cs.toList.take o++vs++cs.toList.drop (o+vs.length)).toArray):=by
 obtain⟨m,rfl⟩:∃m,n=m+1:=⟨n-1,ω⟩
 have hl:(Builtin.zeroCells z.cells (m+1)).toList.length=(m+1)*s:=by simp[Builtin.zeroCells,hzs,Gx]
 have hst:=run_storeCells_at (P:=P) g o T (Builtin.zeroCells z.cells (m+1)).toList 0 cs w hg (by rw[hl];omega) (λv hv=>by
  simp only[Builtin.zeroCells,Array.toList_map,iV,Array.mem_toList_iff,Array.mem_range]at hv;obtain⟨i,hi,rfl⟩:=hv
  have hp:i%z.cells.size<z.cells.size:=qx _ (by
   rcases yD z.cells.size with h0|h0
   .rw[h0,TP]at hi;omega
   .exact h0)
  rw[getElem!_pos z.cells _ hp]
  exact h1 _ η)
 simp only[Nat.add_zero]at hst;refine⟨_,hl, ?_⟩;simp[Builtin.clear_,run_underlying ht,hz,hst]
end
theorem JO{P:Program}[Wld P]{f:FuncId}{k:Nat}{r:AV}(h:Den P f [.c (.sl k [])] r):Den P f [.c (.sl 0 [])] r:=by
 have h':=h.old rfl;refine Den.of ⟨h'.1,λw X vs ho hX hl hR=>h'.2 w X vs ho hX hl λi u v hu hv=>?_⟩ rfl
 match i,hv with
 |0,hv =>
  cases hv;have:=hR 0 u _ hu rfl;cases this with
  |c h =>
   obtain⟨A,cap,uss,rfl,h1,h2,h3,h4⟩:=RepS.of_sl h;exact .c (.sl A 0 cap k [] [] rfl rfl (Cl.nil _ _ _) h1 h2 (λi us e h=>by simp at h) (λi us e h=>by simp at h))
end Go.Sw
namespace Go.Sw
open Go Go.RowKit
def ac3(P:Program)(t k:Nat):Bool :=
 match P.info? t with
 |some i=>(match i.zero with|some z=>Nat.beq i.size k&&(Nat.beq z.cells.size k&&Nat.ble i.bytes 1000000)|none=>false)
 |none=>false
theorem CJ{P:Program}{t k:Nat}(h:ac3 P t k=true):∃i z,P.info? t=some i/\i.zero=some z/\i.size=k/\z.cells.size=k/\i.bytes<=1000000:=by
 unfold ac3 at h;split at h
 .rename_i i hi;split at h
  .rename_i z hz;simp only[gX]at h;exact⟨i,z,hi,hz,jX h.1,jX h.2.1,Nat.le_of_ble_eq_true h.2.2⟩
  .cases h
 .cases h
end Go.Sw
namespace Go.Sw
theorem hbr{q:Rat}{n N:Nat}[k:HbB q n](h:2*(n/29+1)<=N):rz q<=N:=fZ (dM k.h) h
structure HL (A B C X Y Q:Rat):Prop where
 a:hb A 645
 b:hb B 645
 c:hb C 5071
 x:hb X 321
 y:hb Y 321
 q:hb Q 1249
 n:¬(A=0/\B=0)
theorem HL.of{A B C X Y Q:Rat}{k:Bool}(h:SB (.ln A B C))(h2:SB (.ar X Y Q k))(hn:¬(A=0/\B=0)):HL A B C X Y Q :=
 ⟨jf h.1 ψ,jf h.2.1 ψ,jf h.2.2 ψ,h2.1,h2.2.1,h2.2.2,hn⟩
theorem HL.rad{X Y Q U V W:Rat}{k m:Bool}(h:SB (.ar X Y Q k))(h2:SB (.ar U V W m))(hn:¬(X=U/\Y=V)):HL (2*(U-X)) (2*(V-Y)) (lI U V W-lI X Y Q) X Y Q:=by
 haveI i1:HbB X 321:=⟨h.1⟩
 haveI i2:HbB Y 321:=⟨h.2.1⟩
 haveI i3:HbB Q 1249:=⟨h.2.2⟩
 haveI i4:HbB U 321:=⟨h2.1⟩
 haveI i5:HbB V 321:=⟨h2.2.1⟩
 haveI i6:HbB W 1249:=⟨h2.2.2⟩
 refine⟨hbb ψ,hbb ψ, ?_,h.1,h.2.1,h.2.2,λg=>hn ?_⟩
 .unfold lI;exact hbb ψ
 .obtain⟨g1,g2⟩:=g;constructor<;>grind
section
variable {A B C X Y Q:Rat}
theorem HL.ft(h:HL A B C X Y Q):hb (ug A B C X Y) 10553/\hb (uf A B C X Y) 10553/\hb (xX A B C X Y Q) 47400:=by
 haveI i1:HbB A 645:=⟨h.a⟩
 haveI i2:HbB B 645:=⟨h.b⟩
 haveI i3:HbB C 5071:=⟨h.c⟩
 haveI i4:HbB X 321:=⟨h.x⟩
 haveI i5:HbB Y 321:=⟨h.y⟩
 haveI i6:HbB Q 1249:=⟨h.q⟩
 have h1:hb (ug A B C X Y) 10553:=by unfold ug Jw;exact hbb ψ
 have h2:hb (uf A B C X Y) 10553:=by unfold uf Jw;exact hbb ψ
 refine⟨h1,h2, ?_⟩
 haveI i7:HbB (ug A B C X Y) 10553:=⟨h1⟩
 haveI i8:HbB (uf A B C X Y) 10553:=⟨h2⟩
 unfold xX;exact hbb ψ
theorem HL.rm(h:HL A B C X Y Q):hb (RU A B C X Y) 10553/\hb (SY A B C X Y) 10553/\hb (Az A B C X Y Q) 47400/\hb (B/wY A B) 3300/\hb (-A/wY A B) 3300:=by
 haveI i1:HbB A 645:=⟨h.a⟩
 haveI i2:HbB B 645:=⟨h.b⟩
 haveI i3:HbB C 5071:=⟨h.c⟩
 haveI i4:HbB X 321:=⟨h.x⟩
 haveI i5:HbB Y 321:=⟨h.y⟩
 haveI i6:HbB Q 1249:=⟨h.q⟩
 refine⟨?_, ?_, ?_, ?_, ?_⟩
 .unfold RU U0 wY;exact hbb ψ
 .unfold SY U0 wY;exact hbb ψ
 .unfold Az U0 wY;exact hbb ψ
 .unfold wY;exact hbb ψ
 .unfold wY;exact hbb ψ
end
theorem VO{x y:Rat}(hx:rz x<=5000)(hy:rz y<=5000):PB (jl x y):=⟨hx,by show rz 0<=_;decide +kernel,hy,by show rz 0<=_;decide +kernel,by show rz 0<=_;decide +kernel,Rat.le_refl⟩
theorem XM{x u y v k:Rat}(hx:hb x 10553)(hu:hb u 645)(hy:hb y 10553)(hv:hb v 645)(hk:hb k 47400)(h0:0<=k):PB (Dz x u y v k):=by
 have g:∀{q:Rat} {n N:Nat},hb q n->2*(n/29+1)<=N->rz q<=N:=λh k=>fZ (dM h) k
 refine⟨g (VG hx hu hk) ψ,g (VB hu) ψ,g (VG hy hv hk) ψ,g (VB hv) ψ, ?_,Dw h0⟩;refine g (n:=47400) ?_ ψ;show hb (eY _ _ _) _;unfold eY;split
 .exact Ox ψ
 .split
  .exact VW hk
  .exact VW hk
theorem uU{x u y v k:Rat}(hx:hb x 10553)(hu:hb u 3300)(hy:hb y 10553)(hv:hb v 3300)(hk:hb k 47400)(h0:0<k):yZ (nZ x u y v k):=by
 have g:∀{q:Rat} {n N:Nat},hb q n->2*(n/29+1)<=N->rz q<=N:=λh k=>fZ (dM h) k
 unfold nZ;split
 .rename_i h;exact⟨VO (g (D8 hx (Ig hu (NT h hk))) ψ) (g (D8 hy (Ig hv (NT h hk))) ψ),.inl ⟨rfl,rfl,rfl⟩⟩
 .rename_i h;exact⟨⟨g hx ψ,g hu ψ,g hy ψ,g hv ψ,g hk ψ,by show 0<=k;grind⟩,.inr ⟨h0,by simpa using h⟩⟩
theorem akH{A B C X Y Q:Rat}(h:xX A B C X Y Q<0):[]=Dj A B C X Y Q:=by unfold Dj;rw[if_pos h]
theorem akN{A B C X Y Q:Rat}(h:xX A B C X Y Q=0):[jl (ug A B C X Y) (uf A B C X Y)]=Dj A B C X Y Q:=by unfold Dj;rw[h,if_neg ν,if_pos rfl]
theorem ajK{A B C X Y Q:Rat}(h:¬xX A B C X Y Q<0)(h2:¬xX A B C X Y Q=0){u v:Rat}(hu:u=lV A B)(hv:v=l9 A B):[Dz (ug A B C X Y) (-u) (uf A B C X Y) (-v) (xX A B C X Y Q),Dz (ug A B C X Y) u (uf A B C X Y) v (xX A B C X Y Q)]=Dj A B C X Y Q:=by
 unfold Dj;rw[if_neg h,if_neg h2,hu,hv]
theorem agZ{A B:Rat}(h:B<0):-B=lV A B∧- -A=l9 A B:=by
 have:O8 A B=true:=by unfold O8;rw[decide_eq_true h];rfl
 unfold lV l9;rw[if_pos this,if_pos this];exact⟨rfl,rfl⟩
theorem ahf{A B:Rat}(h:B=0)(h2 : -A<0):-B=lV A B∧- -A=l9 A B:=by
 have:O8 A B=true:=by unfold O8;rw[decide_eq_true h,decide_eq_true h2];simp
 unfold lV l9;rw[if_pos this,if_pos this];exact⟨rfl,rfl⟩
theorem ah0{A B:Rat}(h:¬B<0)(h2:¬-A<0):B=lV A B∧-A=l9 A B:=by
 have:O8 A B=false:=by unfold O8;rw[decide_eq_false h,decide_eq_false h2];simp
 unfold lV l9;rw[if_neg (by rw[this];decide),if_neg (by rw[this];decide)];exact⟨rfl,rfl⟩
theorem aie{A B:Rat}(h:¬B<0)(h2:¬B=0):B=lV A B∧-A=l9 A B:=by
 have:O8 A B=false:=by unfold O8;rw[decide_eq_false h,decide_eq_false h2];rfl
 unfold lV l9;rw[if_neg (by rw[this];decide),if_neg (by rw[this];decide)];exact⟨rfl,rfl⟩
theorem Bo{A B:Rat}(h:¬(A=0/\B=0)):¬A*A+B*B=0:=sq_pos (by
 by_cases g:A=0
 .exact .inr λg2=>h ⟨g,g2⟩
 .exact .inl g)
theorem ahx(u v k:Rat):dN u k=0\/dN v k=0\/dP u k=dP v k:=by
 by_cases h:dN u k=0
 .exact .inl h
 .by_cases g:dN v k=0
  .exact .inr (.inl g)
  .exact .inr (.inr (by rw[Qs h,Qs g]))
theorem adw{q:Rat}(h:¬bD q = -1):0<=q:=by
 unfold bD at h
 by_cases g:q<0
 .rw[if_pos g]at h;exact absurd rfl h
 .grind
theorem ahS{q:Rat}(h:bD q = -1):q<0:=by
 unfold bD at h
 by_cases g:q<0
 .exact g
 .rw[if_neg g]at h;split at h<;>omega
def szL(l:List Pnt):Nat:=match l with
 |[]=>0
 |_=>20
def erL(A B C D E F:Rat):Int:=if A*E-D*B=0 then(if(Sprt.ln A B C).same (.ln D E F)=true then 10 else 0)else 0
def erC(X Y Q U V W:Rat):Int:=if X=U/\Y=V/\Q=W then 10 else 0
def erS:Sprt->Sprt->Int
 |.ln A B C,.ln D E F=>erL A B C D E F
 |.ar X Y Q _,.ar U V W _=>erC X Y Q U V W
 |_,_=>0
theorem ahw{X Y Q U V W:Rat}(h:X=U)(k:Y=V):[]=TD X Y Q U V W:=by unfold TD;rw[if_pos ⟨h,k⟩]
theorem akj{X Y Q U V W:Rat}(h:¬(X=U/\Y=V)):Dj (2*(U-X)) (2*(V-Y)) (lI U V W-lI X Y Q) X Y Q=TD X Y Q U V W:=by unfold TD;rw[if_neg h]
theorem MC{A B C D E F:Rat}(h:A*E-D*B=0):[]=Lc A B C D E F:=by unfold Lc;rw[if_pos h]
theorem XT{A B C D E F:Rat}(h:¬A*E-D*B=0):[jl ((C*E-F*B)/(A*E-D*B)) ((A*F-D*C)/(A*E-D*B))]=Lc A B C D E F:=by unfold Lc;rw[if_neg h]
theorem FD{A B C:Rat}(h:(Sprt.ln A B C).ok):¬(A=0/\B=0):=λ⟨g,g2⟩=>h.elim (λk=>k g) λk=>k g2
theorem X4{p:Pnt}(h:PB p):PB (MX p):=⟨by show rz (-p.ax)<=_;rw[jK];exact h.ax,by show rz (-p.bx)<=_;rw[jK];exact h.bx,h.ay,h.bb,h.c,h.nn⟩
section
variable {p q f:Pnt} {X Y:Rat}
theorem alp(hp:0<=p.c)(h:0<fP (p.ay-Y) p.bb (bC p.bb p.c)):true=decide (oG (jl X Y) p=0):=by rw[<-acM hp h];rfl
theorem alg(hp:0<=p.c)(h:¬0<fP (p.ay-Y) p.bb (bC p.bb p.c))(k:¬fP (p.ay-Y) p.bb (bC p.bb p.c)=0):false=decide (oG (jl X Y) p=0):=by rw[<-ads hp h k];rfl
theorem ako(hp:0<=p.c)(k:fP (p.ay-Y) p.bb (bC p.bb p.c)=0):decide (0<fP (p.ax-X) p.bx (bC p.bx p.c))=decide (oG (jl X Y) p=0):=by
 by_cases h:0<fP (p.ax-X) p.bx (bC p.bx p.c)
 .rw[<-acY hp k h,decide_eq_true h];rfl
 .rw[<-acI hp (by rw[k];omega) h,decide_eq_false h];rfl
theorem aiQ{o:Pnt}(h:decide (oG o p=0)=decide (oG o q=0)):oG o p=oG o q:=by
 have h1:=mY o p;have h2:=mY o q;rcases h1 with h1|h1<;>rcases h2 with h2|h2<;>rw[h1,h2]at h ⊢<;>cases h
end
section
variable {o f p q:Pnt}
theorem amC(h:(decide (oG o p=0) != decide (oG o q=0))=true)(k:oG o q=0):-1=zL o p q:=by
 unfold zL;rw[if_neg (λg=>by rw[g]at h;simp at h),if_pos k]
theorem amu(h:(decide (oG o p=0) != decide (oG o q=0))=true)(k:¬oG o q=0):1=zL o p q:=by
 unfold zL;rw[if_neg (λg=>by rw[g]at h;simp at h),if_neg k]
theorem al7(h:(decide (oG o p=0) != decide (oG o q=0))=false)(k:oG o p=0):-cX p q=zL o p q:=by
 have h:=aiQ (bne_eq_false_iff_eq.1 h);unfold zL;rw[if_pos h,if_pos k]
theorem aj9(h:(decide (oG o p=0) != decide (oG o q=0))=false)(k:¬oG o p=0):cX p q=zL o p q:=by
 have h:=aiQ (bne_eq_false_iff_eq.1 h);unfold zL;rw[if_pos h,if_neg k]
theorem aiP(h:(decide (zL o p f<0) != decide (zL o q f<0))=true)(k:zL o q f<0):-1=VX o f p q:=by
 unfold VX;rw[if_neg (λg=>by rw[g]at h;simp at h),if_pos k]
theorem ag0(h:(decide (zL o p f<0) != decide (zL o q f<0))=true)(k:¬zL o q f<0):1=VX o f p q:=by
 unfold VX;rw[if_neg (λg=>by rw[g]at h;simp at h),if_neg k]
theorem ah9(h:(decide (zL o p f<0) != decide (zL o q f<0))=false):zL o p q=VX o f p q:=by
 unfold VX;rw[if_pos (bne_eq_false_iff_eq.1 h)]
end
theorem ah8{c:Cv}{p:Pnt}(h:¬c.s.on p=0):false=c.onR p:=by unfold Cv.onR;rw[decide_eq_false h];rfl
theorem agJ{c:Cv}{p:Pnt}(h:c.s.on p=0)(k:¬c.od c.p p<=0):false=c.onR p:=by unfold Cv.onR;rw[decide_eq_true h,decide_eq_false k];rfl
theorem agS{c:Cv}{p:Pnt}(h:c.s.on p=0)(k:c.od c.p p<=0):decide (c.od p c.q<=0)=c.onR p:=by unfold Cv.onR;rw[decide_eq_true h,decide_eq_true k];rfl
structure PCR (c:Cv):Prop where
 s:SB c.s
 p:yZ c.p
 q:yZ c.q
theorem PCR.c{c:Cv}(h:PCR c):PC c:=⟨h.s,h.p.1,h.q.1⟩
theorem agT{A B C X Y Q:Rat}(h:Az A B C X Y Q<0):[]=Hg A B C X Y Q:=by unfold Hg;rw[if_pos h]
theorem ahk{A B C X Y Q:Rat}(h:Az A B C X Y Q=0):[jl (RU A B C X Y) (SY A B C X Y)]=Hg A B C X Y Q:=by unfold Hg;rw[h,if_neg ν,if_pos rfl]
theorem ac2{A B C X Y Q:Rat}(h:¬Az A B C X Y Q<0)(h2:¬Az A B C X Y Q=0):SQ (nZ (RU A B C X Y) (-(B/wY A B)) (SY A B C X Y) (-(-A/wY A B)) (Az A B C X Y Q)) (nZ (RU A B C X Y) (B/wY A B) (SY A B C X Y) (-A/wY A B) (Az A B C X Y Q))=Hg A B C X Y Q:=by
 unfold Hg;rw[if_neg h,if_neg h2]
theorem NC{q:Rat}(h:¬q<0)(h2:¬q=0):0<q:=ν
theorem acF{X Y Q U V W:Rat}(h:X=U)(k:Y=V):[]=ccR X Y Q U V W:=by unfold ccR;rw[if_pos ⟨h,k⟩]
theorem ahy{X Y Q U V W:Rat}(h:¬(X=U/\Y=V)):Hg (2*(U-X)) (2*(V-Y)) (lI U V W-lI X Y Q) X Y Q=ccR X Y Q U V W:=by unfold ccR;rw[if_neg h]
def erR(A B C D E F:Rat):Int:=if A*E-D*B=0 then(if C*E-F*B=0/\A*F-D*C=0 then 10 else 0)else 0
def erQ(X Y Q U V W:Rat):Int:=if X=U/\Y=V then(if Q=W then 10 else 0)else 0
def erT:Sprt->Sprt->Int
 |.ln A B C,.ln D E F=>erR A B C D E F
 |.ar X Y Q _,.ar U V W _=>erQ X Y Q U V W
 |_,_=>0
def Zy(n:Int)(u:Nat):Rat:=(n:Rat)/((((u%4:Nat):Int)+1:Int):Rat)
theorem Z4(d:Nat):((d:Nat):Int).tmod 4=((d%4:Nat):Int):=by rw[Int.tmod_eq_emod_of_nonneg ω];rfl
theorem dm3(d:Nat):((d:Nat):Int).tmod 3=((d%3:Nat):Int):=by rw[Int.tmod_eq_emod_of_nonneg ω];rfl
theorem ng{n:Int}{u:Nat}(h : -128<=n/\n<128):hb (Zy n u) 8:=by
 unfold Zy;have:=qx u (show 0<4 by decide);have h8:(2:Nat)^8=256:=ψ
 refine Ic ?_ ?_ ?_
 .omega
 .omega
 .omega
theorem y7{n:Int}{u:Nat}(h : -128<=n/\n<128):rz (Zy n u)<=2:=fZ (dM (ng h)) ψ
def agd(a b c d:Rat):Cv:=⟨.ln (b-d) (c-a) ((b-d)*a+(c-a)*b),jl a b,jl c d⟩
def c6X(a b c d e f:Rat):Rat:=a+cU a b c d e f/(cD a b c d e f+cD a b c d e f)
def c6Y(a b c d e f:Rat):Rat:=b+cV a b c d e f/(cD a b c d e f+cD a b c d e f)
def c6Q(a b c d e f:Rat):Rat:=cU a b c d e f/(cD a b c d e f+cD a b c d e f)*(cU a b c d e f/(cD a b c d e f+cD a b c d e f))+cV a b c d e f/(cD a b c d e f+cD a b c d e f)*(cV a b c d e f/(cD a b c d e f+cD a b c d e f))
def ahr(a b c d e f:Rat):Cv:=⟨.ar (c6X a b c d e f) (c6Y a b c d e f) (c6Q a b c d e f) (!decide (0<cD a b c d e f)),jl a b,jl e f⟩
theorem cwN{a b c d e f:Rat}(h:¬cD a b c d e f=0):decide ((c-a)*(f-b)<(d-b)*(e-a)) = !decide (0<cD a b c d e f):=by
 rw[<-decide_not,decide_eq_decide];unfold cD at *;constructor<;>intro h<;>grind
theorem agv{p q:Rat}(h:p-q=0):p=q:=ν
def WB(X Y Q:Rat):List Cv:=[⟨.ar X Y Q false,nZ X (-1) Y 0 Q,nZ X 1 Y 0 Q⟩,⟨.ar X Y Q false,nZ X 1 Y 0 Q,nZ X (-1) Y 0 Q⟩]
def ED(k:Nat)(A B C D E F:Rat):List Cv :=
 if k%3=2 then(if C<=0 then[]else WB A B C)
 else if k%3=1 then(if cD A B C D E F=0 then[]else[ahr A B C D E F])
 else if B-D=0/\C-A=0 then[]else[agd A B C D]
def ofC(k u:Nat)(a b c d e f:Int):List Cv:=ED k (Zy a u) (Zy b u) (Zy c u) (Zy d u) (Zy e u) (Zy f u)
def szC(l:List Cv):Nat:=match l with
 |[]=>0
 |_=>66
section
variable {α:Type} (o:α->α->Int) (d:α)
def JW:Nat->List α->List α
 |0,L=>L
 |j+1,L=>if o (L.getD (j+1) d) (L.getD j d)<0 then JW j ((L.set (j+1) (L.getD j d)).set j (L.getD (j+1) d))else L
def JB:Nat->Nat->List α->List α
 |0,_,L=>L
 |f+1,i,L=>JB f (i+1) (JW o d i L)
variable {o:α->α->Int} {d:α}
theorem QS:∀(j:Nat) (L:List α),(JW o d j L).length=L.length
 |0,L=>rfl
 |j+1,L=>by unfold JW;split<;>simp[QS]
theorem KR{A B:List α}{x:α}:(A++x::B).getD A.length d=x:=by simp
theorem Xb:∀(A:List α) (x:α) (B:List α),JW o d A.length (A.reverse++x::B)=(tu o x A).reverse++B
 |[],x,B=>rfl
 |y::A,x,B=>by
  have e1:((y::A).reverse++x::B).getD (A.length+1) d=x:=by
   have:=KR (d:=d) (A:=(y::A).reverse) (B:=B) (x:=x)
   rwa [List.length_reverse]at this
  have e2:((y::A).reverse++x::B).getD A.length d=y:=by
   have:=KR (d:=d) (A:=A.reverse) (B:=x::B) (x:=y);rw[List.length_reverse]at this;rw[List.reverse_cons,S9];exact this
  rw[ji];unfold JW tu;rw[e1,e2];split
  .have e3:(((y::A).reverse++x::B).set (A.length+1) y).set A.length x=A.reverse++x ::(y::B):=by
    rw[List.reverse_cons,S9];have h1:A.length+1=A.reverse.length+1:=by rw[List.length_reverse]
    rw[h1,List.set_append_right _ _ ω,show A.reverse.length+1-A.reverse.length=1 by omega];rw[show A.length=A.reverse.length by rw[List.length_reverse],List.set_append_right _ _ ω,Nat.sub_self];rfl
   rw[e3,Xb A x (y::B),List.reverse_cons,S9];rfl
  .rw[List.reverse_cons,S9];simp
theorem Vj(x:α):∀A:List α,(tu o x A).length=A.length+1
 |[]=>rfl
 |y::A=>by unfold tu;split<;>simp[Vj x A]
theorem Vh:∀(R A:List α),JB o d R.length A.length (A.reverse++R)=(R.foldl (λa x=>tu o x a) A).reverse
 |[],A=>by simp[JB]
 |x::R,A=>by
  rw[ji];unfold JB;rw[Xb,Na];rw[<-Vj x A];exact Vh R (tu o x A)
theorem IU(L:List α):JB o d (L.length-1) 1 L=AB o L:=by
 cases L with
 |nil=>rfl
 |cons x R=>exact Vh (o:=o) (d:=d) R [x]
theorem VN{f i n:Nat}{L:List α}(h:i<n):JB o d (n-i) i L=JB o d (n-(i+1)) (i+1) (JW o d i L):=by
 rw[show n-i=(n-(i+1))+1 by omega];rfl
theorem aam{i n:Nat}{L:List α}(h:¬i<n):JB o d (n-i) i L=L:=by
 rw[show n-i=0 by omega];rfl
theorem aeO{j:Nat}{L:List α}(hj:0<j)(h:o (L.getD j d) (L.getD (j-1) d)<0):JW o d j L=JW o d (j-1) ((L.set j (L.getD (j-1) d)).set (j-1) (L.getD j d)):=by
 obtain⟨k,rfl⟩:∃k,j=k+1:=⟨j-1,ω⟩
 rw[Nat.add_sub_cancel]at h ⊢
 conv=>lhs;unfold JW
 rw[if_pos h]
theorem adI{j:Nat}{L:List α}(h:¬o (L.getD j d) (L.getD (j-1) d)<0):JW o d j L=L:=by
 cases j with
 |zero=>rfl
 |succ k=>rw[Nat.add_sub_cancel]at h;unfold JW;rw[if_neg h]
end
theorem ac5{A B C x y:Rat}(h:A*x+B*y-C=0):sdS A B C (jl x y)=0:=ex0 h (by show A*0+B*0=0;grind)
theorem YM{X Y Q x y:Rat}(h:(x-X)*(x-X)+(y-Y)*(y-Y)=Q):inS X Y Q (jl x y)=0 :=
 ex0 (by show(x-X)*(x-X)+(y-Y)*(y-Y)+0*(0*0+0*0)-Q=0;grind) (by show(x-X)*0+(y-Y)*0+((x-X)*0+(y-Y)*0)=0;grind)
theorem Nu{a b c d:Rat}(h:kH (jl a b) (jl c d)=0):a=c/\b=d:=by
 obtain⟨h1,h2⟩:=zY h;rw[QY (pF _ _)]at h1;rw[JQ (pF _ _)]at h2;have k1:=eU.1 (exI_zero.symm.trans h1);have k2:=eU.1 (exI_zero.symm.trans h2);simp only[jl]at k1 k2;constructor<;>grind
theorem adh{X Y Q u:Rat}(hQ:0<Q)(hu:u=1\/u = -1):inS X Y Q (nZ X u Y 0 Q)=0/\0<=(nZ X u Y 0 Q).c:=by
 have hu2:u*u=1:=by rcases hu with rfl|rfl<;>grind
 unfold nZ;split
 .rename_i h;have:=NV h;exact⟨YM ν,pF _ _⟩
 .refine⟨ex0 ?_ ?_,Rat.le_of_lt hQ⟩
  .show(X-X)*(X-X)+(Y-Y)*(Y-Y)+Q*(u*u+0*0)-Q=0;grind
  .show(X-X)*u+(Y-Y)*0+((X-X)*u+(Y-Y)*0)=0;grind
theorem ac0{X Y Q:Rat}(hQ:0<Q):kH (nZ X (-1) Y 0 Q) (nZ X 1 Y 0 Q)≠0:=by
 intro h;unfold nZ at h;split at h
 .rename_i hs;have h1:=(Nu h).1;have h2:=NV hs;have h3:wE Q=0:=ν
  rw[h3]at h2
  grind
 .have h1:=LY (p:=⟨X,-1,Y,0,Q⟩) (q:=⟨X,1,Y,0,Q⟩) (Rat.le_of_lt hQ) (Rat.le_of_lt hQ);rw[(zY h).1]at h1;have h2:NulS (nK Q):=(h1.nul.cmul (-1/2)).cg λn=>by unfold pX;grind
  rcases XY (Rat.le_of_lt hQ)with⟨_,k⟩|⟨k,_⟩|⟨k,_⟩
  .exact k.nn h2
  .rw[Vq hQ]at k;cases k
  .rw[Vq hQ]at k;cases k
theorem y9{x y:Rat}(hx:rz x<=5000)(hy:rz y<=5000):yZ (jl x y):=⟨VO hx hy,.inl ⟨rfl,rfl,rfl⟩⟩
theorem Y0{p q:Pnt}(hp:0<=p.c)(hq:0<=q.c)(h:kH p q≠0):kH q p≠0:=by rw[G8 hp hq];omega
structure GC (c:Cv):Prop where
 ok:c.ok
 b:PCR c
theorem Xt{k:Nat}{A B C D E F:Rat}(h1:hb A 8)(h2:hb B 8)(h3:hb C 8)(h4:hb D 8)(h5:hb E 8)(h6:hb F 8):∀c∈ED k A B C D E F,GC c:=by
 intro c hc
 haveI i1:HbB A 8:=⟨h1⟩
 haveI i2:HbB B 8:=⟨h2⟩
 haveI i3:HbB C 8:=⟨h3⟩
 haveI i4:HbB D 8:=⟨h4⟩
 haveI i5:HbB E 8:=⟨h5⟩
 haveI i6:HbB F 8:=⟨h6⟩
 have g:∀{q:Rat},hb q 8->rz q<=5000:=λh=>fZ (dM h) ψ
 unfold ED at hc;split at hc
 .split at hc
  .cases hc
  .rename_i hk h0;have hQ:0<C:=ν
   have p1:=uU (x:=A) (u:=-1) (y:=B) (v:=0) (jf h1 ψ) (ni (WM 1 (by decide +kernel) ψ)) (jf h2 ψ) (Ox ψ) (jf h3 ψ) hQ;have p2:=uU (x:=A) (u:=1) (y:=B) (v:=0) (jf h1 ψ) (WM 1 (by decide +kernel) ψ) (jf h2 ψ) (Ox ψ) (jf h3 ψ) hQ;obtain⟨o1,n1⟩:=adh (X:=A) (Y:=B) hQ (.inr rfl);obtain⟨o2,n2⟩:=adh (X:=A) (Y:=B) hQ (.inl rfl);have hs:SB (.ar A B C false):=⟨jf h1 ψ,jf h2 ψ,jf h3 ψ⟩
   unfold WB at hc;rcases jA.1 hc with rfl|hc
   .exact⟨⟨hQ,n1,n2,o1,o2,ac0 hQ⟩,⟨hs,p1,p2⟩⟩
   .rw[pI.1 hc];exact⟨⟨hQ,n2,n1,o2,o1,Y0 n1 n2 (ac0 hQ)⟩,⟨hs,p2,p1⟩⟩
 .split at hc
  .split at hc
   .cases hc
   .rename_i hk hk1 h0;rw[pI.1 hc];refine⟨⟨afO h0,pF _ _,pF _ _,YM (aeG h0 rfl rfl),YM (adJ h0 rfl rfl),λhh=>h0 ?_⟩,⟨⟨?_, ?_, ?_⟩,y9 (g h1) (g h2),y9 (g h5) (g h6)⟩⟩
    .obtain⟨e1,e2⟩:=Nu hh;unfold cD;rw[e1,e2];grind
    all_goals
     haveI u1:HbB (cU A B C D E F) 173:=⟨by unfold cU;exact hbb ψ⟩
     haveI u2:HbB (cV A B C D E F) 173:=⟨by unfold cV;exact hbb ψ⟩
     haveI u3:HbB (cD A B C D E F) 69:=⟨by unfold cD;exact hbb ψ⟩
    .unfold c6X;exact hbb ψ
    .unfold c6Y;exact hbb ψ
    .unfold c6Q;exact hbb ψ
  .split at hc
   .cases hc
   .rename_i hk hk1 h0;rw[pI.1 hc];refine⟨⟨?_,pF _ _,pF _ _,ac5 ν,ac5 ν,λhh=>h0 ?_⟩,⟨⟨hbb ψ,hbb ψ,hbb ψ⟩,y9 (g h1) (g h2),y9 (g h3) (g h4)⟩⟩
    .show B-D≠0\/C-A≠0
     by_cases q:B-D=0
     .exact .inr λr=>h0 ⟨q,r⟩
     .exact .inl q
    .obtain⟨e1,e2⟩:=Nu hh;constructor<;>grind
theorem OJ{A B C X Y Q:Rat}(h:HL A B C X Y Q):∀p∈Hg A B C X Y Q,yZ p:=by
 obtain⟨r1,r2,r3,r4,r5⟩:=h.rm;have g:∀{q:Rat} {n N:Nat},hb q n->2*(n/29+1)<=N->rz q<=N:=λh k=>fZ (dM h) k
 intro p hp;unfold Hg at hp;split at hp
 .cases hp
 .rename_i k1;split at hp
  .rw[pI.1 hp];exact y9 (g r1 ψ) (g r2 ψ)
  .rename_i k2;have hk:=NC k1 k2;have q1:=uU r1 (ni r4) r2 (ni r5) r3 hk;have q2:=uU r1 r4 r2 r5 r3 hk;unfold SQ at hp;split at hp
   .simp only[jA,List.not_mem_nil,or_false]at hp;rcases hp with rfl|rfl
    .exact q2
    .exact q1
   .simp only[jA,List.not_mem_nil,or_false]at hp;rcases hp with rfl|rfl
    .exact q1
    .exact q2
theorem Hr(A B C X Y Q:Rat):(Hg A B C X Y Q).length<=2:=by
 unfold Hg SQ;split
 .simp
 .split
  .simp
  .split<;>simp
theorem Zi{A B C D E F:Rat}(h1:SB (.ln A B C))(h2:SB (.ln D E F)):(∀p∈Lc A B C D E F,yZ p)/\(Lc A B C D E F).length<=2:=by
 haveI i1:HbB A 17:=⟨h1.1⟩
 haveI i2:HbB B 17:=⟨h1.2.1⟩
 haveI i3:HbB C 51:=⟨h1.2.2⟩
 haveI i4:HbB D 17:=⟨h2.1⟩
 haveI i5:HbB E 17:=⟨h2.2.1⟩
 haveI i6:HbB F 51:=⟨h2.2.2⟩
 unfold Lc;split
 .exact⟨λp hp=>(by cases hp),η⟩
 .exact⟨λp hp=>by rw[pI.1 hp];exact y9 (hbr ψ) (hbr ψ),η⟩
theorem ZK{a b:Sprt}(ha:SB a)(hb:SB b)(oa:a.ok)(ob:b.ok):(∀p∈Aq a b,yZ p)/\(Aq a b).length<=2:=by
 cases a<;>cases b<;>simp only[Aq]
 .exact Zi ha hb
 .exact⟨OJ (HL.of ha hb (FD oa)),Hr ..⟩
 .exact⟨OJ (HL.of hb ha (FD ob)),Hr ..⟩
 .unfold ccR;split
  .exact⟨λp hp=>by(cases hp),η⟩
  .rename_i h;exact⟨OJ (HL.rad ha hb h),Hr ..⟩
theorem uO{c d:Cv}(hc:GC c)(hd:GC d):(∀p∈c.candR d,yZ p)/\(c.candR d).length<=4:=by
 unfold Cv.candR;split
 .refine⟨λp hp=>?_,η⟩;simp only[jA,List.not_mem_nil,or_false]at hp;rcases hp with rfl|rfl|rfl|rfl
  .exact hc.b.p
  .exact hc.b.q
  .exact hd.b.p
  .exact hd.b.q
 .have h:=ZK hc.b.s hd.b.s hc.ok.s hd.ok.s;exact⟨h.1,fZ h.2 ψ⟩
theorem adX{c:Cv}{p:Pnt}(h:c.onR p=true):c.s.on p=0:=by
 unfold Cv.onR at h;simp only[gX,decide_eq_true_eq]at h;exact h.1
theorem nY{c d:Cv}(hc:GC c)(hd:GC d):(∀p∈c.meetR d,yZ p/\c.onR p=true)/\(c.meetR d).length<=4:=by
 obtain⟨h1,h2⟩:=uO hc hd;unfold Cv.meetR;refine⟨Ib λp hp=>?_,fZ (BA _) (fZ (List.length_filter_le _ _) h2)⟩;obtain⟨g1,g2⟩:=yS.1 hp;exact⟨h1 p g1,by simp only[gX]at g2;exact g2.1⟩
theorem Bf{c:Cv}(hc:GC c){l:List Pnt}(hl:∀p∈l,yZ p/\c.onR p=true):(∀a∈c.splR l,GC a)/\1<=(c.splR l).length/\(c.splR l).length<=l.length+1:=by
 have hm:∀p∈c.srt (c.p::c.q::l),yZ p/\c.s.on p=0:=Ib λp hp=>by
  rcases jA.1 hp with rfl|hp
  .exact⟨hc.b.p,hc.ok.op⟩
  .rcases jA.1 hp with rfl|hp
   .exact⟨hc.b.q,hc.ok.oq⟩
   .exact⟨(hl p hp).1,adX (hl p hp).2⟩
 have hnb:=ae7 (c:=c) hc.ok.p (l:=c.p::c.q::l) λp hp=>by
  rcases jA.1 hp with rfl|hp
  .exact hc.ok.p
  .rcases jA.1 hp with rfl|hp
   .exact hc.ok.q
   .exact(hl p hp).1.1.nn
 have hlen:=BA (c:=c) (c.p::c.q::l);have htwo:=acv hc.ok.p hc.ok.q hc.ok.ne l;simp only[ji]at hlen;unfold Cv.splR;refine⟨λa ha=>?_,by rw[AP];omega,by rw[AP];omega⟩;obtain⟨e,h1,h2,h3⟩:=PU ha hnb;obtain⟨p1,p2⟩:=hm _ h1;obtain⟨q1,q2⟩:=hm _ h2;exact⟨⟨by rw[e];exact hc.ok.s,p1.1.nn,q1.1.nn,by rw[e];exact p2,by rw[e];exact q2,h3⟩,⟨by rw[e];exact hc.b.s,p1,q1⟩⟩
section
variable {α:Type} {e:α->α->Bool} {d:α}
theorem lG{l:List α}{j:Nat}(h:j<l.length):l.take (j+1)=l.take j++[l.getD j d]:=by
 rw[Zr,pW h,Bd,List.take_append_getElem h]
theorem JM:∀(A:List α) (p x:α),Dp e p (A++[x])=if e x ((p::A).getLast η)=true then Dp e p A else Dp e p A++[x]
 |[],p,x=>rfl
 |b::A,p,x=>by
  have h:=JM A b x;have h2:(p::b::A).getLast η=(b::A).getLast η:=List.getLast_cons _;rw[h2];simp only[List.cons_append,Dp,h];split<;>split<;>rfl
theorem Gq:∀(A:List α) (p:α),(p::A).getLast η=(p::A).getD A.length d
 |[],p=>rfl
 |b::A,p=>by
  rw[List.getLast_cons η,Gq A b];rfl
theorem getD_take{l:List α}{i j:Nat}(h:j<i):(l.take i).getD j d=l.getD j d:=by
 rw[Zr,Zr,List.getElem?_take_of_lt h]
theorem yx{l:List α}{i:Nat}(h0:0<i)(h:i<l.length):xI e (l.take (i+1))=if e (l.getD i d) (l.getD (i-1) d)=true then xI e (l.take i)else xI e (l.take i)++[l.getD i d]:=by
 obtain⟨j,rfl⟩:∃j,i=j+1:=⟨i-1,ω⟩
 cases l with
 |nil=>simp at h
 |cons a r =>
  simp only[ji]at h;have hj:j<r.length:=ω
  have e1:(a::r).take (j+1+1)=a ::(r.take j++[r.getD j d]):=by rw[List.take_succ_cons,lG hj]
  have e2:(a::r).take (j+1)=a::r.take j:=List.take_succ_cons;rw[e1,e2,Nat.add_sub_cancel];show a::Dp e a _=_;rw[JM,Gq (d:=d)];have hl:(r.take j).length=j:=by rw[xB];omega
  rw[hl]
  have e3:(a::r.take j).getD j d=(a::r).getD j d:=by
   rw[<-e2,getD_take (Nat.lt_succ_self j)]
  rw[e3];show _=if e (r.getD j d) _=true then a::Dp e a (r.take j)else a::Dp e a (r.take j)++[r.getD j d]
  split<;>rfl
theorem pz{f:α->Bool}{l:List α}{j:Nat}(h:j<l.length):(l.take (j+1)).filter f=if f (l.getD j d)=true then(l.take j).filter f++[l.getD j d]else(l.take j).filter f:=by
 rw[lG (d:=d) h,List.filter_append];split
 .rename_i k;rw[List.filter_cons_of_pos k];rfl
 .rename_i k;rw[List.filter_cons_of_neg k,List.filter_nil,EG]
theorem FI{L:List α}{i:Nat}{x:α}(h:i<L.length):(L.set i x).take (i+1)=L.take i++[x]:=by
 rw[List.take_set,lG (d:=x) h,List.set_append_right _ _ (by rw[xB];omega),xB,Nat.min_eq_left (Nat.le_of_lt h),Nat.sub_self];rfl
theorem GI{L:List α}{i j:Nat}{x:α}(h:i<j):(L.set i x).drop j=L.drop j:=by
 rw[List.drop_set,if_pos h]
theorem DX{L l:List α}{j k:Nat}(h:L.drop j=l.drop j)(hk:j<=k):L.getD k d=l.getD k d:=by
 have:=congrArg (λm=>m.getD (k-j) d) h;simp only[Zr,Pj]at this;rw[show j+(k-j)=k by omega]at this;simpa[Zr]using this
structure DlJ (f:α->Bool) (l:List α) (i j:Nat) (L:List α):Prop where
 ij:i<j
 jn:j<=l.length
 len:L.length=l.length
 tk:L.take i=(l.take j).filter f
 dr:L.drop j=l.drop j
theorem DlJ.get{f:α->Bool}{l L:List α}{i j:Nat}(h:DlJ f l i j L):L.getD j d=l.getD j d:=DX h.dr (jg _)
theorem DlJ.yes{f:α->Bool}{l L:List α}{i j:Nat}(h:DlJ f l i j L)(hj:j<l.length)(k:f (l.getD j d)=true):DlJ f l (i+1) (j+1) (L.set i (L.getD j d)):=by
 refine⟨by have:=h.ij;omega,ω,by rw[kG];exact h.len, ?_, ?_⟩
 .rw[pz (d:=d) hj,if_pos k,FI (by rw[h.len];have:=h.ij;omega),h.tk,h.get]
 .rw[GI (by have:=h.ij;omega),<-MR,<-MR,h.dr]
theorem DlJ.no{f:α->Bool}{l L:List α}{i j:Nat}(h:DlJ f l i j L)(hj:j<l.length)(k:¬f (l.getD j d)=true):DlJ f l i (j+1) L:=by
 refine⟨by have:=h.ij;omega,ω,h.len, ?_, ?_⟩
 .rw[pz (d:=d) hj,if_neg k,h.tk]
 .rw[<-MR,<-MR,h.dr]
theorem DlJ.fin{f:α->Bool}{l L:List α}{i j:Nat}(h:DlJ f l i j L)(hj:¬j<l.length):L.take i=l.filter f/\i<=l.length:=by
 have e:j=l.length:=by have:=h.jn;omega
 have:=h.tk;rw[e,oU]at this;exact⟨this,by have:=h.ij;omega⟩
theorem DlJ.start{f:α->Bool}{l:List α}{i:Nat}(hi:i<l.length)(h:∀j<i,f (l.getD j d)=true)(k:¬f (l.getD i d)=true):DlJ f l i (i+1) l:=by
 refine⟨Nat.lt_succ_self i,hi,rfl, ?_,rfl⟩;rw[pz (d:=d) hi,if_neg k]
 have:∀n≤i,(l.take n).filter f=l.take n:=by
  intro n;induction n with
  |zero=>intro _;rfl
  |succ n ih =>
   intro hn;rw[pz (d:=d) ω,if_pos (h n ω),ih ω,lG (d:=d) ω]
 exact(this i (jg _)).symm
theorem abY{f:α->Bool}{l:List α}(h:∀j<l.length,f (l.getD j d)=true):l.filter f=l:=by
 rw[List.filter_eq_self];intro x hx;obtain⟨j,hj,rfl⟩:=Vt hx;have:=h j hj
 rwa [Zr,pW hj,Bd]at this
structure CpJ (e:α->α->Bool) (l:List α) (k m:Nat) (L:List α):Prop where
 km:k<m
 k0:0<k
 mn:m<=l.length
 len:L.length=l.length
 tk:L.take k=xI e (l.take m)
 dr:L.drop (m-1)=l.drop (m-1)
theorem CpJ.get{l L:List α}{k m:Nat}(h:CpJ e l k m L):L.getD m d=l.getD m d/\L.getD (m-1) d=l.getD (m-1) d:=⟨DX h.dr ω,DX h.dr (jg _)⟩
theorem CpJ.yes{l L:List α}{k m:Nat}(h:CpJ e l k m L)(hm:m<l.length)(g:¬e (l.getD m d) (l.getD (m-1) d)=true):CpJ e l (k+1) (m+1) (L.set k (L.getD m d)):=by
 have hk:=h.km;refine⟨ω,ω,ω,by rw[kG];exact h.len, ?_, ?_⟩
 .rw[yx (d:=d) ω hm,if_neg g,FI (by rw[h.len];omega),h.tk,h.get.1]
 .rw[Nat.add_sub_cancel,GI hk];have:=congrArg (List.drop 1) h.dr
  rwa [MR,MR,show m-1+1=m by omega]at this
theorem CpJ.no{l L:List α}{k m:Nat}(h:CpJ e l k m L)(hm:m<l.length)(g:e (l.getD m d) (l.getD (m-1) d)=true):CpJ e l k (m+1) L:=by
 have hk:=h.km;refine⟨ω,h.k0,ω,h.len, ?_, ?_⟩
 .rw[yx (d:=d) ω hm,if_pos g,h.tk]
 .rw[Nat.add_sub_cancel];have:=congrArg (List.drop 1) h.dr
  rwa [MR,MR,show m-1+1=m by omega]at this
theorem CpJ.fin{l L:List α}{k m:Nat}(h:CpJ e l k m L)(hm:¬m<l.length):L.take k=xI e l/\k<=l.length:=by
 have q:m=l.length:=by have:=h.mn;omega
 have:=h.tk;rw[q,oU]at this;exact⟨this,by have:=h.km;omega⟩
theorem afS{l:List α}(hl:l≠[]):xI e (l.take 1)=l.take 1:=by
 cases l with
 |nil=>exact absurd rfl hl
 |cons a r=>rfl
theorem CpJ.start{l:List α}{k:Nat}(h0:0<k)(hk:k<l.length)(h:xI e (l.take k)=l.take k)(g:e (l.getD k d) (l.getD (k-1) d)=true):CpJ e l k (k+1) l :=
 ⟨Nat.lt_succ_self k,h0,hk,rfl,by rw[yx (d:=d) h0 hk,if_pos g,h],rfl⟩
theorem Z5{l:List α}{k:Nat}(h0:0<k)(hk:k<l.length)(h:xI e (l.take k)=l.take k)(g:¬e (l.getD k d) (l.getD (k-1) d)=true):xI e (l.take (k+1))=l.take (k+1):=by
 rw[yx (d:=d) h0 hk,if_neg g,h,lG hk]
theorem bP{P:α->Prop}{l:List α}(h:∀p∈l,P p){i:Nat}(hi:i<l.length):P (l.getD i d):=by
 rw[Zr,pW hi];exact h _ (qbJ hi)
theorem AZ{P:α->Prop}{l:List α}{i:Nat}{x:α}(h:∀p∈l,P p)(hx:P x):∀p∈l.set i x,P p:=λp hp=>by
 rcases List.mem_or_eq_of_mem_set hp with hp|rfl
 .exact h p hp
 .exact hx
end
theorem Vx{o:Pnt->Pnt->Int}{d:Pnt}{n x1 y1:Nat}{x2 y2 R:List Pnt}(h:x1<n)(hx:JB o d (n-x1) x1 x2=R)(hy:JW o d y1 y2=JW o d x1 x2)(he:JW o d y1 y2=y2):JB o d (n-(x1+1)) (x1+1) y2=R:=by
 rw[VN (f:=0) h,<-hy,he]at hx;exact hx
theorem xW{o:Pnt->Pnt->Int}{d:Pnt}:∀(f i:Nat) (L:List Pnt),(JB o d f i L).length=L.length
 |0,_,_=>rfl
 |f+1,i,L=>by unfold JB;rw[xW f,QS]
theorem MF{o:Pnt->Pnt->Int}{P:Pnt->Prop}{l:List Pnt}(h:∀p∈l,P p):∀p∈AB o l,P p:=λp hp=>h p ((Qc l).1 hp)
def O0:Pnt:=jl 0 0
section
variable {α:Type} {q:α->Bool} {d:α}
def zH(q:α->Bool):List α->Int
 |[]=>-1
 |a::r=>if q a=true then 0 else if zH q r<0 then -1 else zH q r+1
theorem Zg(q:α->Bool):∀l:List α,-1<=zH q l/\zH q l<l.length
 |[]=>by simp[zH]
 |a::r=>by
  have:=Zg q r;simp only[zH,ji];split
  .omega
  .split<;>omega
theorem Cc:∀{l:List α} {k:Nat},k<l.length->(∀j<k,q (l.getD j d)=false)->q (l.getD k d)=true->zH q l=(k:Nat)
 |[],k,h,_,_=>by simp at h
 |a::r,0,_,_,h=>by
  have h:q a=true:=h;simp only[zH];rw[if_pos h];rfl
 |a::r,k+1,h,h1,h2=>by
  have h0:q a=false:=h1 0 ω;have ih:=Cc (l:=r) (k:=k) (by simpa using h) (λj hj=>h1 (j+1) ω) h2;simp only[zH];rw[if_neg (by simp[h0]),ih,if_neg ω];omega
theorem L8:∀{l:List α},(∀j<l.length,q (l.getD j d)=false)->zH q l = -1
 |[],_=>rfl
 |a::r,h=>by
  have h0:q a=false:=h 0 η;have ih:=L8 (l:=r) λj hj=>h (j+1) (by simpa using hj)
  simp only[zH];rw[if_neg (by simp[h0]),ih,if_pos ω]
theorem Ih:∀{l:List α},decide (0<=zH q l)=l.any q
 |[]=>rfl
 |a::r=>by
  have ih:=Ih (l:=r);have:=Zg q r;rw[List.any_cons,Bool.eq_iff_iff,decide_eq_true_eq,Zv,<-ih,decide_eq_true_eq];rw[show zH q (a::r)=(if q a=true then 0 else if zH q r<0 then -1 else zH q r+1)from rfl];generalize zH q r=m at *
  by_cases h:q a=true
  .simp[h]
  .rw[if_neg h];split<;>(constructor<;>intro g<;>first|omega|(right;omega)|(rcases g with g|g;exact absurd g h;omega))
theorem KG(q:α->Bool)(d:α):∀l:List α,(zH q l = -1/\∀j<l.length,q (l.getD j d)=false)\/∃k:Nat,zH q l=(k:Nat)/\k<l.length/\(∀j<k,q (l.getD j d)=false)/\q (l.getD k d)=true
 |[] => .inl ⟨rfl,λj h=>by simp at h⟩
 |a::r=>by
  by_cases h:q a=true
  .refine .inr ⟨0, ?_,η,λj hj=>by omega,h⟩;simp only[zH];rw[if_pos h];rfl
  .have h':q a=false:=by simpa using h
   rcases KG q d r with⟨e,k⟩|⟨k,e,k1,k2,k3⟩
   .refine .inl ⟨?_,λj hj=>?_⟩
    .simp only[zH];rw[if_neg h,e,if_pos ω]
    .cases j with
     |zero=>exact h'
     |succ j=>exact k j (by simpa using hj)
   .refine .inr ⟨k+1, ?_,by simpa using k1,λj hj=>?_,k3⟩
    .simp only[zH];rw[if_neg h,e,if_neg ω];omega
    .cases j with
     |zero=>exact h'
     |succ j=>exact k2 j ω
end
def Le(c d:Cv)(p:Pnt):Bool:=c.rc p&&d.rc p
theorem Ld{α:Type}{L:List α}{k i:Nat}{d:α}:(L.drop k).getD i d=L.getD (k+i) d:=by simp[Zr,Pj]
theorem zx{s:Nat}:∀{rest:List Value} {uss:List (List Value)} {i:Nat},(∀us∈uss,us.length=s)->i<=uss.length->(uss.flatten++rest).take (i*s)=(uss.take i).flatten
 |rest,uss,0,_,_=>by simp
 |rest,[],i+1,_,h=>by simp at h
 |rest,us::uss,i+1,hz,h=>by
  have h1:us.length=s:=hz us List.mem_cons_self;have ih:=zx (rest:=rest) (i:=i) (λu hu=>hz u (vX _ hu)) (by simpa using h);rw[List.take_succ_cons,ZE,ZE,S9,UY,Nat.add_comm,List.take_append,h1,Nat.add_sub_cancel_left,ih,MV ω]
open Go Go.RowKit
theorem JC{w w2:World}{X X':List Nat}{g cap i s:Nat}{T:TypeId}{uss:List (List Value)}{es:List (List Cell)}{cs2:Array Value}(hS:RepS w X s uss es)(hz:∀e∈es,e.length=s)(hi:i<=es.length)(hcap:i<=cap)(hm:cap<=9223372036854775807)
 (hext:Ext w X w2 X') (hg:w2.heap[g]?=some (.cells cs2 T (0,0))) (hx:g ∉ X') (ht:cs2.toList.take (i*s)=(uss.take i).flatten):RepD w2 X' (.slice (some ⟨g,0,none⟩) i cap) (.c (.sl s (es.take i))):=by
 have hS2:=(hS.ext hext).cut i;refine .c (.sl _ i cap s (uss.take i) (es.take i) (by rw[xB];omega) (by simp[hS.len]) (by rw[<-ht];exact Cl.of_block hg hx _) hcap hm (λj us e h1 h2=>⟨hS2.sz us (Gt h1),hz e (qbL (Gt h2))⟩) (λj us e h1 h2=>(hS2.get j us e h1 h2).get))
theorem TR{M:Type}(d:M){f:M->List Cell}{l:List M}{y:M}{j:Int}{k:List Cell->Prop}(n:Nat)(hp:Pr (0<=j/\j<l.length))(hk:k (f ((l.set n y).getD j.toNat d))):Elem ((l.map f).set n (f y)) j k:=by
 rw[<-List.map_set];exact aT d ⟨by rw[kG];exact hp.p⟩ hk
end Go.Sw
namespace Go.Proofs.YtdpkjhnfklkkjaaGreat
open Go Go.RowKit Go.Sw Go.Proofs.Tryz
set_option maxRecDepth 100000
set_option maxHeartbeats 16000000
set_option synthInstance.maxSize 4000
set_option synthInstance.maxHeartbeats 400000
def aa5:Tab:=[(3000000000+196,.flag),(3000000000+256,.flag),(3000000000+295,.flag),(3000000000+26,.flag),(3000000000+195,.flag)]++tab
theorem abg:dQ prog aa5=true:=ζ
def agU:Tab:=[(5000000000,.flag),(5000009006,.flag)]++aa5
theorem aaA:dQ prog agU=true:=ζ
def aiD:Tab:=(2000000000,.flag)::aa5
theorem abx:dQ prog aiD=true:=ζ
def afo(f:FuncId):Tab:=match Nat.beq f 46 with|true=>agU|false=>(match([253,16]:List Nat).any λg=>Nat.beq f g with|true=>aiD|false=>aa5)
theorem aaW(f:FuncId):dQ prog (afo f)=true:=by
 unfold afo;split
 .exact aaA
 .split
  .exact abx
  .exact abg
theorem G9{l:List Pnt}{p:Pnt}{n:Nat}{j:Int}{k:List Cell->Prop}(hp:Pr (0<=j/\j<l.length))(hk:k (aY ((l.set n p).getD j.toNat O0))):Elem ((l.map λp=>aY p).set n [zs p.ax.num,zl p.ax.num,zs p.ax.den,zl p.ax.den,zs p.bx.num,zl p.bx.num,zs p.bx.den,zl p.bx.den,zs p.ay.num,zl p.ay.num,zs p.ay.den,zl p.ay.den,zs p.bb.num,zl p.bb.num,zs p.bb.den,zl p.bb.den,zs p.c.num,zl p.c.num,zs p.c.den,zl p.c.den]) j k:=TR O0 n hp hk
instance aoa(c:Cv)(p q:Pnt):DenI prog 77 [.agg (aY p),.agg (aY q),.c (.p (dL c))] (PC c/\PB p/\PB q) (.int .i64 (c.odP p q)):=⟨λhp=>by
 obtain⟨Hc,hp,hq⟩:=hp
 all_goals refine aS func77 rfl ?_
 all_goals(repeat'((try(conv=>whnf));first
  |refine ak ?_ ?_|apply zaa))
 all_goals(try apply zab)
 all_goals first
  |rfl|((repeat' apply And.intro)<;>with_reducible assumption)⟩
instance akZ(c:Cv)(l:List Pnt):DenI prog 229 [.own 37 20 (l.map λp=>aY p),.int .i64 0,.int .i64 (l.length:Nat),.c (.fn 77 [.p (dL c)])] (PC c/\(∀p∈l,PB p)/\l.length<=16) (.tup [.own 37 20 ((JB c.odP O0 (l.length-1) 1 l).map λp=>aY p),.tup []]):=⟨λhp=>by
 obtain⟨Hc,hl,hn⟩:=hp;refine RN (λ_=>trivial) (τ:=tab) dJ dF func229 rfl ζ ζ ζ rfl ?_
 all_goals first
  |((conv=>whnf);refine Sw.Loop.inv (α:=Nat×List Pnt) (λx=>[(0,.gs 0 l.length),(1,.int .i64 0),(2,.int .i64 (l.length:Nat)),(3,.c (.fn 77 [.p (dL c)])),(8,.int .i64 (x.1:Nat))]) (λx=>[(0,.grow 37 20 (x.2.map λp=>aY p))]) (λx=>x.2.length=l.length/\(∀p∈x.2,PB p)/\1<=x.1/\JB c.odP O0 (l.length-x.1) x.1 x.2=(JB c.odP O0 (l.length-1) 1 l)) (λx=>l.length-x.1) (1,l) ?_ ?_ ?_ (λx ⟨hx1,hx2,hx3,hx4⟩=>?_))
 all_goals(repeat'((try(conv=>whnf));first
  |(with_reducible refine aO (λ_=>?_) (λ_=>?_))))
 all_goals(try simp only[bW,dI]at *)
 all_goals first
  |((conv=>whnf);refine Sw.Loop.inv (α:=Nat×List Pnt) (λy=>[(0,.gs 0 l.length),(1,.int .i64 0),(2,.int .i64 (l.length:Nat)),(3,.c (.fn 77 [.p (dL c)])),(8,.int .i64 (x.1:Nat)),(9,.int .i64 (y.1:Nat))]) (λy=>[(0,.grow 37 20 (y.2.map λp=>aY p))]) (λy=>y.2.length=l.length/\(∀p∈y.2,PB p)/\y.1<l.length/\JW c.odP O0 y.1 y.2=JW c.odP O0 x.1 x.2) (λy=>y.1) (x.1,x.2) ?_ ?_ ?_ (λy ⟨hy1,hy2,hy3,hy4⟩=>?_))|skip
 all_goals(repeat'((try(conv=>whnf));first
  |refine ak ?_ ?_|(with_reducible first|refine aN ?_|refine aI ?_|refine aO (λ_=>?_) (λ_=>?_))|refine aK ?_ ?_|refine zac ζ ?_|refine G9 ?_ ?_|refine aT O0 ?_ ?_))
 all_goals(try apply zab)
 all_goals(try simp only[bW,dI]at *)
 all_goals(try simp(disch:=omega) only[bG,jB,dI,bW,kG]at *)
 all_goals first|(show SubE _ _;repeat'(first|exact trivial|refine And.intro ?_ ?_))|(show SubB _ _;repeat'(first|exact trivial|refine And.intro ?_ ?_))|skip
 all_goals(try rfl)
 all_goals first
  |omega|exact⟨Hc,bP hy2 ω,bP hy2 ω⟩|exact⟨trivial,hl,jg _,trivial⟩|exact⟨hx1,hx2,ω,trivial⟩|((conv=>whnf);exact⟨(y.1-1,(y.2.set y.1 (y.2.getD (y.1-1) O0)).set (y.1-1) (y.2.getD y.1 O0)),⟨⟨rfl,rfl,rfl,rfl,rfl,(show some (AV.int .i64 _)=some (AV.int .i64 _)from by first|(refine congrArg (λz=>some (AV.int .i64 z)) ?_;(try dsimp only);omega)|(refine congrArg (λz=>some (AV.int .i64 z)) ?_;(try dsimp only);rw[bG ω ω];omega)),trivial⟩,⟨(by show some (Bk.grow _ _ _)=some (Bk.grow _ _ _);rw[List.map_set,List.map_set];(try simp(disch:=omega) only[bG,jB])),trivial⟩,⟨by rw[kG,kG];exact hy1,AZ (AZ hy2 (bP hy2 ω)) (bP hy2 ω),by show y.1-1<l.length;omega,(aeO ω ξ).symm.trans hy4⟩,by show y.1-1<y.1;omega⟩⟩)|((conv=>whnf);exact⟨(x.1+1,y.2),⟨⟨rfl,rfl,rfl,rfl,(show some (AV.int .i64 _)=some (AV.int .i64 _)from by first|(refine congrArg (λz=>some (AV.int .i64 z)) ?_;(try dsimp only);omega)|(refine congrArg (λz=>some (AV.int .i64 z)) ?_;(try dsimp only);rw[bG ω ω];omega)),trivial⟩,⟨rfl,trivial⟩,⟨hy1,hy2,by show 1<=x.1+1;omega,Vx ω hx4 hy4 (by first|exact adI ξ|(rw[show y.1=0 by omega];rfl))⟩,by show l.length-(x.1+1)<l.length-x.1;omega⟩⟩)|(rw[aam ω]at hx4;rw[<-hx4];exact⟨⟨rfl,rfl,by simp only[bW,hx1]⟩,rfl,rfl⟩)⟩
def tabs:Tab:=[(3000000000+229,.flag),(3000000000+148,.flag),(3000000000+76,.flag),(3000000000+79,.flag),(3000000000+26,.flag)]++tab
theorem Hf:dQ prog tabs=true:=ζ
def ahj:Tab:=(2000000000,.flag)::tabs
theorem aa4:dQ prog ahj=true:=ζ
instance aji(c:Cv)(l:List Pnt)(n:Nat):DenI prog 229 [.c (.sl 20 (l.map λp=>aY p)),.int .i64 0,.int .i64 (n:Nat),.c (.fn 77 [.p (dL c)])] (l.length=0/\n=0) (.tup []):=⟨λhp=>by
 refine aS func229 rfl ?_
 all_goals first
  |skip
 all_goals first
  |((conv=>whnf);refine Sw.Loop.unroll ?_)
 all_goals(repeat'((try(conv=>whnf));first
  |(with_reducible refine aO (λ_=>?_) (λ_=>?_))|apply zaa))
 all_goals(try simp only[bW,dI]at *)
 all_goals(try simp(disch:=omega) only[bG,jB,dI,bW,kG]at *)
 all_goals first
  |(exfalso;omega)⟩
instance ajQ(c:Cv)(l:List Pnt):DenI prog 148 [.own 37 20 (l.map λp=>aY p),.int .i64 (l.length:Nat),.c (.fn 77 [.p (dL c)])] (PC c/\(∀p∈l,PB p)/\l.length<=16) (.tup [.own 37 20 ((JB c.odP O0 (l.length-1) 1 l).map λp=>aY p),.tup []]):=⟨λhp=>by
 obtain⟨Hc,hl,hn⟩:=hp;refine RN (λ_=>trivial) (τ:=tabs) Hf dF func148 rfl ζ ζ ζ rfl ?_
 all_goals first
  |((conv=>whnf);refine Sw.Loop.unroll ?_)
 all_goals(repeat'((try(conv=>whnf));first
  |refine zae (λ_=>?_) (λ_=>?_)|refine ak ?_ ?_|(with_reducible refine aO (λ_=>?_) (λ_=>?_))|refine aK ?_ ?_))
 all_goals(try apply zab)
 all_goals first
  |(exfalso;omega)|skip
 all_goals first
  |((conv=>whnf);refine Sw.Loop.unroll ?_)|skip
 all_goals(repeat'((try(conv=>whnf));first
  |(with_reducible refine aO (λ_=>?_) (λ_=>?_))))
 all_goals first
  |(exfalso;omega)|skip
 all_goals(try simp only[bW,dI]at *)
 all_goals first
  |omega|exact⟨Hc,hl,hn⟩|(refine⟨⟨rfl,rfl, ?_⟩,rfl,rfl⟩;simp only[bW,xW];done)|(rcases l with _|⟨p,r⟩;(exact⟨⟨rfl,rfl,rfl⟩,rfl,rfl⟩);(exfalso;simp only[ji]at *;omega))⟩
instance ajf(c:Cv)(l:List Pnt)(n:Nat):DenI prog 148 [.c (.sl 20 (l.map λp=>aY p)),.int .i64 (n:Nat),.c (.fn 77 [.p (dL c)])] (l.length=0/\n=0) (.tup []):=⟨λhp=>by
 refine aS func148 rfl ?_
 all_goals first
  |skip
 all_goals first
  |((conv=>whnf);refine Sw.Loop.unroll ?_)
 all_goals(repeat'((try(conv=>whnf));first
  |refine ak ?_ ?_|(with_reducible refine aO (λ_=>?_) (λ_=>?_))))
 all_goals(try apply zab)
 all_goals(try simp only[bW,dI]at *)
 all_goals(try simp(disch:=omega) only[bG,jB,dI,bW,kG]at *)
 all_goals first
  |(exfalso;omega)|skip
 all_goals first
  |((conv=>whnf);refine Sw.Loop.unroll ?_)|skip
 all_goals(repeat'((try(conv=>whnf));first
  |(with_reducible refine aO (λ_=>?_) (λ_=>?_))|apply zaa))
 all_goals(try simp only[bW,dI]at *)
 all_goals(try simp(disch:=omega) only[bG,jB,dI,bW,kG]at *)
 all_goals first
  |(exfalso;omega)|skip
 all_goals first
  |omega⟩
instance akM(c:Cv)(l:List Pnt):DenI prog 76 [.own 37 20 (l.map λp=>aY p),.c (.fn 77 [.p (dL c)])] (PC c/\(∀p∈l,PB p)/\l.length<=16) (.tup [.own 37 20 ((JB c.odP O0 (l.length-1) 1 l).map λp=>aY p),.tup []]):=⟨λhp=>by
 obtain⟨Hc,hl,hn⟩:=hp;refine RN (λ_=>trivial) (τ:=tabs) Hf dF func76 rfl ζ ζ ζ rfl ?_
 all_goals(repeat'((try(conv=>whnf));first
  |refine zae (λ_=>?_) (λ_=>?_)|refine ak ?_ ?_|refine aK ?_ ?_))
 all_goals(try apply zab)
 all_goals(try simp only[bW,dI]at *)
 all_goals(repeat'((try(conv=>whnf));first
  |refine ak ?_ ?_))
 all_goals(try apply zab)
 all_goals first
  |omega|exact⟨Hc,hl,hn⟩|(refine⟨⟨rfl,rfl, ?_⟩,rfl,rfl⟩;simp only[bW,xW];done)|(rcases l with _|⟨p,r⟩;(exact⟨⟨rfl,rfl,rfl⟩,rfl,rfl⟩);(exfalso;simp only[ji]at *;omega))⟩
instance ajz(c:Cv)(l:List Pnt):DenI prog 76 [.c (.sl 20 (l.map λp=>aY p)),.c (.fn 77 [.p (dL c)])] (l.length=0) (.tup []):=⟨λhp=>by
 refine aS func76 rfl ?_
 all_goals(repeat'((try(conv=>whnf));first
  |refine ak ?_ ?_|apply zaa))
 all_goals(try apply zab)
 all_goals(try simp only[bW,dI]at *)
 all_goals first
  |skip
 all_goals first
  |omega⟩
end Go.Proofs.YtdpkjhnfklkkjaaGreat
namespace Go.Sw
open Go Go.RowKit
def Tj{α:Type}:Nat->Nat->(List Nat->Option α)->Option α
 |0,n,k=>(match n with|0=>k []|_+1=>none)
 |f+1,n,k=>(match n with|0=>k []|m+1=>fN ((m+1)%1000000000) λr=>fN ((m+1)/1000000000) λq=>Tj f q λl=>k (r::l))
theorem Bv{α:Type}:∀(f n:Nat) {k:List Nat->Option α} {r:α},Tj f n k=some r->k (lim n)=some r/\(lim n).length<=f
 |0,0,k,r,h=>⟨by rw[lim];exact h,by rw[lim];simp⟩
 |0,_+1,k,r,h=>by cases h
 |f+1,0,k,r,h=>⟨by rw[lim];exact h,by rw[lim];simp⟩
 |f+1,m+1,k,r,h=>by
  simp only[Tj,Cb]at h;obtain⟨h1,h2⟩:=Bv f _ h;rw[lim,if_neg ω];exact⟨h1,by simpa using h2⟩
def eZ{α:Type}(n:Int)(k:Cell->Cell->Option α):Option α :=
 match n with
 |.ofNat m=>Tj 40 m λl=>k (.v (.bool false)) (dB l)
 |.negSucc m=>Tj 40 (m+1) λl=>k (.v (.bool true)) (dB l)
theorem XL{α:Type}{n:Int}{k:Cell->Cell->Option α}{r:α}(h:eZ n k=some r):k (zs n) (zl n)=some r:=by
 cases n with
 |ofNat m=>exact(Bv _ _ h).1
 |negSucc m =>
  have h1:decide (Int.negSucc m<0)=true:=decide_eq_true (Int.negSucc_lt_zero m);have h2:=(Bv _ _ h).1;unfold zs;rw[h1];exact h2
def eR(q:Rat):Option AV :=
 match q with
 |⟨n,d,_,_⟩=>fI n λn=>fN d λd=>eZ n λa b=>eZ (d:Nat) λc e=>some (.agg [a,b,c,e])
theorem FQ{q:Rat}{r:AV}(h:eR q=some r):r=R q:=by
 obtain⟨n,d,h1,h2⟩:=q;simp only[eR,BI,Cb]at h;have:=XL (XL h);injection this with this
 exact this.symm
def dV:List (List Cell)->Option (List Nat)
 |[]=>some []
 |[.v (.int .u32 (.ofNat x))]::r=>(match dV r with|some l=>some (x::l)|none=>none)
 |_=>none
theorem adz:∀{cs:List (List Cell)} {l:List Nat},dV cs=some l->cs=l.map λx=>[.v (u32 x)]
 |[],l,h=>by cases h;rfl
 |c::r,l,h=>by
  unfold dV at h;split at h
  .rename_i heq;cases heq
  .rename_i x r' heq;cases heq;split at h
   .rename_i l' h1;cases h;rw[adz h1];rfl
   .cases h
  .cases h
def aei:List Nat->Nat
 |[]=>0
 |x::r=>x+1000000000*aei r
def eqL:List Nat->List Nat->Bool
 |[],[]=>true
 |x::r,y::s=>(match Nat.beq x y with|true=>eqL r s|false=>false)
 |_,_=>false
theorem YL:∀{l m:List Nat},eqL l m=true->l=m
 |[],[],_=>rfl
 |x::r,y::s,h=>by
  simp only[eqL]at h;split at h
  .rename_i h1;rw[jX h1,YL h]
  .cases h
 |[],_::_,h=>by cases h
 |_::_,[],h=>by cases h
def dZ(s:Bool)(ls:List (List Cell)):Option Int :=
 match dV ls with
 |some l=>fN (aei l) λn=>Tj 40 n λl'=>(match eqL l' l with
  |true=>(match s,n with
   |false,n=>some (.ofNat n)
   |true,m+1=>some (.negSucc m)
   |true,0=>none)
  |false=>none)
 |none=>none
theorem WJ{s:Bool}{ls:List (List Cell)}{n:Int}(h:dZ s ls=some n):Cell.v (.bool s)=zs n/\Cell.sl 1 ls=zl n/\sz n<=40:=by
 unfold dZ at h;split at h
 .rename_i l h1;rw[Cb]at h;obtain⟨h2,h3⟩:=Bv _ _ h;split at h2
  .rename_i h4;have h5:=YL h4;have h6:=adz h1;split at h2
   .cases h2;refine⟨rfl, ?_,h3⟩;show Cell.sl 1 ls=dB (lim (aei l));rw[h5,h6]
   .rename_i m hm;cases h2;rw[hm]at h5 h3;refine⟨?_, ?_,h3⟩
    .have h1:decide (Int.negSucc m<0)=true:=decide_eq_true (Int.negSucc_lt_zero m);unfold zs;rw[h1]
    .show Cell.sl 1 ls=dB (lim (m+1));rw[h5,h6]
   .cases h2
  .cases h2
 .cases h
def rO(v:AV):Option Rat :=
 match v with
 |.agg [.v (.bool s),.sl 1 ls,.v (.bool t),.sl 1 ds]=>(match dZ s ls,dZ t ds with
  |some n,some (.ofNat d)=>fI n λn=>fN d λd=>if h:d≠0/\n.natAbs.Coprime d then some ⟨n,d,h.1,h.2⟩else none
  |_,_=>none)
 |_=>none
theorem vG{v:AV}{q:Rat}(h:rO v=some q):v=R q/\rz q<=80:=by
 unfold rO at h;split at h
 .split at h
  .rename_i h1 h2;rw[BI,Cb]at h;split at h
   .cases h;obtain⟨a1,a2,a3⟩:=WJ h1;obtain⟨b1,b2,b3⟩:=WJ h2;refine⟨?_, ?_⟩
    .rw[a1,a2,b1,b2];rfl
    .exact Nat.add_le_add a3 b3
   .cases h
  .cases h
 .cases h
def Wv(v:AV):Option Int :=
 match v with
 |.agg [.v (.bool s),.sl 1 ls]=>dZ s ls
 |_=>none
theorem Ht{v:AV}{n:Int}(h:Wv v=some n):v=Z n/\sz n<=40:=by
 unfold Wv at h;split at h
 .obtain⟨a1,a2,a3⟩:=WJ h;exact⟨by rw[a1,a2],a3⟩
 .cases h
def eI(n:Int):Option AV:=fI n λn=>eZ n λa b=>some (.agg [a,b])
theorem YJ{n:Int}{r:AV}(h:eI n=some r):r=Z n:=by
 unfold eI at h;rw[BI]at h;have:=XL h;injection this with this
 exact this.symm
def abH(v:AV):Option (Rat×Rat×Rat) :=
 match v with
 |.agg [a1,a2,a3,a4,b1,b2,b3,b4,c1,c2,c3,c4]=>(match rO (.agg [a1,a2,a3,a4]),rO (.agg [b1,b2,b3,b4]),rO (.agg [c1,c2,c3,c4])with
  |some a,some b,some c=>some (a,b,c)
  |_,_,_=>none)
 |_=>none
theorem O5{v:AV}{q:Rat×Rat×Rat}(h:abH v=some q):v=Q3 q.1 q.2.1 q.2.2/\rz q.1<=80/\rz q.2.1<=80/\rz q.2.2<=80:=by
 unfold abH at h;split at h
 .split at h
  .rename_i h1 h2 h3;cases h;obtain⟨e1,r1⟩:=vG h1;obtain⟨e2,r2⟩:=vG h2;obtain⟨e3,r3⟩:=vG h3;simp only[AV.agg.injEq,List.cons.injEq,and_true]at e1 e2 e3;obtain⟨rfl,rfl,rfl,rfl⟩:=e1;obtain⟨rfl,rfl,rfl,rfl⟩:=e2;obtain⟨rfl,rfl,rfl,rfl⟩:=e3;exact⟨rfl,r1,r2,r3⟩
  .cases h
 .cases h
def nnR(q:Rat):Bool:=match q with|⟨.ofNat _,_,_,_⟩=>true|_=>false
theorem WQ{q:Rat}(h:nnR q=true):0<=q:=by
 unfold nnR at h;split at h
 .exact Rat.num_nonneg.1 (Int.natCast_nonneg _)
 .cases h
def nwt:Nat->Nat->Nat->Nat
 |0,_,x=>x
 |f+1,n,x=>fN ((x+n/x)/2) λy=>match Nat.blt y x with|true=>nwt f n y|false=>x
def sqW(n:Nat):Option Nat :=
 fN n λn=>fN (match n with|0=>0|n=>nwt 2000 n n) λs=>match Nat.ble (s*s) n,Nat.blt n ((s+1)*(s+1))with
  |true,true=>some s
  |_,_=>none
theorem NZ{n s:Nat}(h:sqW n=some s):iC n=s:=by
 unfold sqW at h;simp only[Cb]at h;split at h
 .rename_i h1 h2;cases h;generalize(match n with|0=>0|n=>nwt 2000 n n)=s at h1 h2;have h1:=Nat.le_of_ble_eq_true h1;have h2:n<(s+1)*(s+1):=Nat.le_of_ble_eq_true h2;obtain⟨k1,k2⟩:=sO n
  have a1:s<iC n+1:=by
   rcases Ju s (iC n+1)with h|h
   .exact h
   .have:=MZ h h;omega
  have a2:iC n<s+1:=by
   rcases Ju (iC n) (s+1)with h|h
   .exact h
   .have:=MZ h h;omega
  omega
 .cases h
def sqQ(a:Rat):Option (Option Rat) :=
 match a with
 |⟨.ofNat n,d,_,_⟩=>(match sqW n,sqW d with
  |some s,some t=>fB (Nat.beq (s*s) n&&Nat.beq (t*t) d) λb=>(match b with|true=>some (some ((((s:Nat):Int):Rat)/(((t:Nat):Int):Rat)))|false=>some none)
  |_,_=>none)
 |⟨.negSucc _,_,_,_⟩=>some none
theorem XQ{a:Rat}{r:Option Rat}(h:sqQ a=some r):(∃q,r=some q/\fQ a=true/\q=wE a)\/(r=none/\fQ a=false):=by
 unfold sqQ at h;split at h
 .rename_i n d h1 h2;split at h
  .rename_i s t e1 e2;rw[ade]at h;have e1:=NZ e1;have e2:=NZ e2
   have key:fQ ⟨.ofNat n,d,h1,h2⟩=(Nat.beq (s*s) n&&Nat.beq (t*t) d):=by
    unfold fQ nC;show((decide (0<=(n:Int))&&decide (((iC n:Nat):Int)*((iC n:Nat):Int)=(n:Int)))&&(decide (0<=(d:Int))&&decide (((iC d:Nat):Int)*((iC d:Nat):Int)=(d:Int))))=_;rw[e1,e2]
    have hh:∀a b:Nat,(decide (0<=(b:Int))&&decide ((a:Int)*(a:Int)=(b:Int)))=Nat.beq (a*a) b:=λa b=>by
     rw[show decide (0<=(b:Int))=true from decide_eq_true ω,ZC]
     by_cases hab:a*a=b
     .rw[hab,Zq];exact decide_eq_true (by rw[<-hab];simp)
     .rw[gI hab];exact decide_eq_false (λe=>hab (by have:=e;rw[<-WR]at this;omega))
    rw[hh,hh]
   split at h
   .rename_i hb;cases h;refine .inl ⟨_,rfl,by rw[key,hb], ?_⟩;show _=((((iC n:Nat):Int)):Rat)/((((iC d:Nat):Int)):Rat);rw[e1,e2]
   .rename_i hb;cases h;exact .inr ⟨rfl,by rw[key,hb]⟩
  .cases h
 .cases h;refine .inr ⟨rfl, ?_⟩;rename_i m d h1 h2;unfold fQ nC;rw[show decide (0<=(Rat.mk' (Int.negSucc m) d h1 h2).num)=false from decide_eq_false (by show¬0<=Int.negSucc m;omega)];rfl
def c0r(op:FuncId->Nat)(f:FuncId)(xs:List AV):Option AV :=
 match op f,xs with
 |1,[x,y]=>(match rO x,rO y with|some a,some b=>eR (a+b)|_,_=>none)
 |2,[x,y]=>(match rO x,rO y with|some a,some b=>eR (a-b)|_,_=>none)
 |3,[x,y]=>(match rO x,rO y with|some a,some b=>eR (a*b)|_,_=>none)
 |4,[x,y]=>(match rO x,rO y with|some a,some b=>fI (jJ a b) λn=>some (.int .i64 n)|_,_=>none)
 |5,[x]=>(match rO x with|some a=>eR (-a)|_=>none)
 |6,[x]=>(match rO x with|some a=>fI (bD a) λn=>some (.int .i64 n)|_=>none)
 |7,[x,y]=>(match rO x,rO y with|some a,some b=>(match b with|⟨.ofNat 0,_,_,_⟩=>none|b=>eR (a/b))|_,_=>none)
 |8,[x,y]=>(match rO x,rO y with|some a,some b=>(match b with|⟨.ofNat 0,_,_,_⟩=>none|b=>(match eR (a/b)with|some v=>some (.tup [v,.int .i64 0])|none=>none))|_,_=>none)
 |9,[x]=>(match rO x with|some a=>(match sqQ a with|some (some q)=>(match eR q with|some v=>some (.tup [v,.bool true])|none=>none)|some none=>some (.tup [.agg [.v (.bool false),.sl 1 [],.v (.bool false),.sl 1 []],.bool false])|none=>none)|none=>none)
 |10,[.c (.v (.int .i64 n))]=>(match decide (-9223372036854775808<=n/\n<=9223372036854775807)with|true=>eR (n:Rat)|false=>none)
 |11,[.c (.v (.int .i64 n)),.c (.v (.int .i64 d))]=>(match decide ((-9223372036854775808<=n/\n<=9223372036854775807)∧-9223372036854775808<=d/\d<=9223372036854775807)with|true=>eR ((n:Rat)/d)|false=>none)
 |12,[x,y]=>(match abH x,abH y with
  |some p,some q=>(match nnR p.2.2,nnR q.2.2 with
   |true,true=>fI (cmp4 p.1 p.2.1 p.2.2 q.1 q.2.1 q.2.2) λn=>some (.int .i64 n)
   |_,_=>none)
  |_,_=>none)
 |13,[x]=>(match Wv x with|some (.ofNat n)=>(match sqW n with|some s=>(match eI (s:Nat)with|some v=>some (.tup [v,.int .i64 0])|none=>none)|none=>none)|_=>none)
 |14,[x,y]=>(match Wv x,Wv y with
  |some a,some b=>(match b with
   |.ofNat 0=>none
   |b=>(match eI (a.fdiv b),eI (a.fmod b)with|some q,some r=>some (.tup [q,r,.int .i64 0])|_,_=>none))
  |_,_=>none)
 |_,_=>none
def opT(f:FuncId):List (Nat×Nat)->Nat
 |[]=>0
 |(g,k)::r=>cond (Nat.beq g f) k (opT f r)
theorem jh{f k:Nat}(hk:k≠0):∀{T:List (Nat×Nat)},opT f T=k->(f,k)∈T
 |[],h=>absurd h.symm hk
 |(g,j)::r,h=>by
  simp only[opT]at h;cases hb:Nat.beq g f with
  |true =>
   rw[hb]at h;have:=jX hb;subst this;have h':j=k:=h;rw[h'];exact List.mem_cons_self
  |false =>
   rw[hb]at h;exact vX _ (jh hk h)
structure OpDen (P:Program) [Wld P] (op:FuncId->Nat):Prop where
 add:∀f,op f=1->∀a b,rz a<=80->rz b<=80->Den P f [R a,R b] (R (a+b))
 sub:∀f,op f=2->∀a b,rz a<=80->rz b<=80->Den P f [R a,R b] (R (a-b))
 mul:∀f,op f=3->∀a b,rz a<=80->rz b<=80->Den P f [R a,R b] (R (a*b))
 cmp:∀f,op f=4->∀a b,rz a<=80->rz b<=80->Den P f [R a,R b] (.int .i64 (jJ a b))
 neg:∀f,op f=5->∀a,rz a<=80->Den P f [R a] (R (-a))
 sgn:∀f,op f=6->∀a,rz a<=80->Den P f [R a] (.int .i64 (bD a))
 over:∀f,op f=7->∀a b,rz a<=80->rz b<=80->b≠0->Den P f [R a,R b] (R (a/b))
 div:∀f,op f=8->∀a b,rz a<=80->rz b<=80->b≠0->Den P f [R a,R b] (.tup [R (a/b),.int .i64 0])
structure OpDen2 (P:Program) [Wld P] (op:FuncId->Nat):Prop where
 sq1:∀f,op f=9->∀a,rz a<=80->fQ a=true->Den P f [R a] (.tup [R (wE a),.bool true])
 sq0:∀f,op f=9->∀a,rz a<=80->fQ a=false->Den P f [R a] (.tup [.agg [.v (.bool false),.sl 1 [],.v (.bool false),.sl 1 []],.bool false])
 int:∀f,op f=10->∀n:Int,(-9223372036854775808<=n/\n<=9223372036854775807)->Den P f [.int .i64 n] (R (n:Rat))
 sqI:∀f,op f=13->∀n:Nat,sz (n:Nat)<=40->Den P f [Z (n:Nat)] (.tup [Z ((iC n:Nat):Int),.int .i64 0])
 dmI:∀f,op f=14->∀a b:Int,sz a<=40->sz b<=40->b≠0->Den P f [Z a,Z b] (.tup [Z (a.fdiv b),Z (a.fmod b),.int .i64 0])
 cmp4:∀f,op f=12->∀a b c d e g,rz a<=80/\rz b<=80/\rz c<=80->rz d<=80/\rz e<=80/\rz g<=80->0<=c->0<=g->Den P f [Q3 a b c,Q3 d e g] (.int .i64 (cmp4 a b c d e g))
 frac:∀f,op f=11->∀n d:Int,((-9223372036854775808<=n/\n<=9223372036854775807)∧-9223372036854775808<=d/\d<=9223372036854775807)->Den P f [.int .i64 n,.int .i64 d] (R ((n:Rat)/d))
theorem aag{b:Rat}(h:∀(d:Nat) (h1:d≠0) (h2:(Int.ofNat 0).natAbs.Coprime d),b=⟨.ofNat 0,d,h1,h2⟩->False):b≠0:=by
 rintro rfl;exact h 1 ψ ψ rfl
theorem afF{P:Program}[Wld P]{op:FuncId->Nat}(hd:OpDen P op)(hd2:OpDen2 P op){f:FuncId}{xs:List AV}{r:AV}(h:c0r op f xs=some r):Den P f xs r:=by
 unfold c0r at h;split at h
 all_goals first
  |(cases h;done)
  |(rename_i ho
    split at h
    .rename_i n hx;obtain⟨rfl,x1⟩:=Ht hx;split at h
     .rename_i s hs;have hs:=NZ hs;split at h
      .rename_i h3;cases h;rw[YJ h3,<-hs];exact hd2.sqI _ ho n x1
      .cases h
     .cases h
    .cases h)
  |(rename_i ho
    split at h
    .rename_i hx hy;obtain⟨rfl,x1⟩:=Ht hx;obtain⟨rfl,y1⟩:=Ht hy;split at h
     .cases h
     .rename_i hb;split at h
      .rename_i h3 h4;cases h;rw[YJ h3,YJ h4];exact hd2.dmI _ ho _ _ x1 y1 (λe=>hb e)
      .cases h
    .cases h)
  |(rename_i ho
    split at h
    .rename_i hx hy;obtain⟨rfl,x1⟩:=O5 hx;obtain⟨rfl,y1⟩:=O5 hy;split at h
     .rename_i n1 n2;rw[BI]at h;cases h;exact hd2.cmp4 _ ho _ _ _ _ _ _ x1 y1 (WQ n1) (WQ n2)
     .cases h
    .cases h)
  |(rename_i ho
    split at h
    .rename_i hx hy;obtain⟨rfl,x1⟩:=vG hx;obtain⟨rfl,y1⟩:=vG hy
     first
      |(rw[FQ h];first|exact hd.add _ ho _ _ x1 y1|exact hd.sub _ ho _ _ x1 y1|exact hd.mul _ ho _ _ x1 y1)|(rw[BI]at h;cases h;exact hd.cmp _ ho _ _ x1 y1)
      |(split at h
        .cases h
        .rename_i hb;have hb0:=aag (λd h1 h2 e=>hb _ _ _ e)
         first
          |(rw[FQ h];exact hd.over _ ho _ _ x1 y1 hb0)
          |(split at h
            .rename_i h3;cases h;rw[FQ h3];exact hd.div _ ho _ _ x1 y1 hb0
            .cases h))
    .cases h)
  |(rename_i ho
    split at h
    .rename_i hx;obtain⟨rfl,x1⟩:=vG hx
     first
      |(rw[FQ h];exact hd.neg _ ho _ x1)|(rw[BI]at h;cases h;exact hd.sgn _ ho _ x1)
      |(split at h
        .rename_i hq;rcases XQ hq with⟨q,e,k1,k2⟩|⟨e,_⟩
         .cases e;split at h
          .rename_i h3;cases h;rw[FQ h3,k2];exact hd2.sq1 _ ho _ x1 k1
          .cases h
         .cases e
        .rename_i hq;rcases XQ hq with⟨q,e,k1,k2⟩|⟨e,k1⟩
         .cases e
         .cases h;exact hd2.sq0 _ ho _ x1 k1
        .cases h)
    .cases h)
  |(rename_i ho
    split at h
    .rename_i hx;rw[FQ h]
     first
      |exact hd2.int _ ho _ (of_decide_eq_true hx)|exact hd2.frac _ ho _ _ (of_decide_eq_true hx)
    .cases h)
open Go.Proofs Go.Shelf
theorem EC(z:Array Value)(n:Nat):(Builtin.zeroCells z n).size=n*z.size:=by
 simp[Builtin.zeroCells]
theorem Wu{P:Program}[Wld P]{ρ:Ren}(L:Lays8.n4 P ρ)(hb:fE P (ρ.f 4)=true)(i0:TypeInfo)(z:Value)(hi0:P.info? (ρ.t 25)=some i0)(hz0:i0.zero=some z)(hs0:0<i0.size)(hzs:z.cells.size=i0.size)(hby:i0.bytes<=1000000){n:Nat}(hn:n<=1000000):
 Den P (ρ.f 4) [.c (.v (.slice none 0 0)),.c (.v (.int .i64 (n:Nat)))] (.own (ρ.t 25) i0.size []):=by
 refine Den.of ⟨hb,λw X vs hW hX hl hr=>?_⟩ rfl
 match vs,hl with
 |[u,v],_ =>
 have hu:u=.slice none 0 0:=by
  have:=hr 0 u _ rfl rfl;cases this with
  |c h=>cases h;rfl
 have hv:v=.int .i64 (n:Nat):=by
  have:=hr 1 v _ rfl rfl;cases this with
  |c h=>cases h;rfl
 subst hu hv;have h48:n*i0.bytes<=140737488355328:=fZ (MZ hn hby) ω
 by_cases h0:n=0
 .subst h0;refine Calls.mono (Any8.slices_Grow_room L none 0 0 0 w ω ω ω ω) ?_;rintro e w' ⟨rfl,rfl⟩;exact⟨_,rfl,⟨⟨[_],[_],[],.inr ⟨rfl,rfl,rfl⟩,η,List.nodup_nil,.own0 hs0 .nil⟩⟩,Below.refl _ _⟩
 .have hgc:=grownCap_ge w (0+n) 0 (ρ.t 25);have hgm:=grownCap_le_maxLen w (0+n) 0 (ρ.t 25) (by unfold maxLen;omega);refine Calls.mono (Any8.slices_Grow_grow L i0 z hi0 hz0 hs0 none 0 0 n [] w ω ω (by rw[uY];exact h48) ω η (λ_=>rfl) (λa h=>by cases h)) ?_;rintro e w' ⟨rfl,rfl⟩;refine⟨_,rfl,⟨⟨[_],[_],[w.heap.size],.inr ⟨rfl,rfl,rfl⟩,η,η, ?_⟩⟩,((Below.refl _ w).drew).alloc (jg _) _⟩;refine RepFs.own (es:=[]) (uss:=[]) (rest:=(([]:List Value).toArray++Builtin.zeroCells z.cells (0+n-0)++Builtin.zeroCells z.cells (grownCap w (0+n) 0 (ρ.t 25)-(0+n))).toList) hs0 ?_ (RepS.nil _ _ _) ?_ hgm (Au _) .nil
  .have key:∀(o:Obj),(w.drew.alloc o).heap[w.heap.size]?=some o:=λo=>by
    show(w.heap.push o)[w.heap.size]?=some o;exact Array.getElem?_push_size
   rw[key];simp only[List.flatten_nil,qbN,Array.toArray_toList]
  .simp only[List.flatten_nil,qbN,qbK,Array.size_append,EC,hzs,Yx,mg];rw[uY,uY,<-Nat.add_mul];rw[uY]at hgc;rw[show n-0+(grownCap w n 0 (ρ.t 25)-n)=grownCap w n 0 (ρ.t 25) by omega]
open Go.Lib
set_option maxRecDepth 100000 in
theorem V9{P:Program}{ρ:Ren}(L:SlLaysE0.n41 P ρ)(i0:TypeInfo)(z:Value)(size bytes:Nat)(hi:P.info? (ρ.t 23)=some i0)(hz0:i0.zero=some z)(hz1:i0.size=size)(hz2:i0.bytes=bytes)(hzs:z.cells.size=size)(hsz:0<size)
 (z23:∀w,(Go.sizeOf (ρ.t 23)).run P w=.ok size w) (a:Addr) (n c:Nat) (news:List Value) (w:World) (hl:news.length=n*size) (hn:n<=maxLen) (hbig:n*bytes<=140737488355328)
 (hc:∀j u,news[j]?=some u->w.cell? (a.add j)=some u) (h1:∀u∈news,u.oneCell'=true) :
 Calls P (ρ.f 41) #[.slice (some a) n c] w λe w'=>∃v',e=.returned v'/\w'.ownsRow w.heap.size (ρ.t 23) size v' n news/\Below w.heap.size w w':=by
 have mixed:=L.mixed;have t4:=L.t4;have a4:=L.a4;have z4:=L.z4;have v4:=L.v4;have t22:=L.t22;have a22:=L.a22;have z22:=L.z22;have v22:=L.v22;have q22:∀(w:World) (a:Option Addr) (n c n' c':Nat),(binOp .eql (ρ.t 22) (.slice a n c) (.slice none n' c')).run P w=.ok (.bool a.isNone) w:=λw a n c n' c'=>Lib.run_eql_slice_nil w _ _ a n c n' c' L.t22
 have u22:∀w,Sem.run P (underlying (ρ.t 22)) w=.ok (TypeDesc.slice (ρ.t 23)) w:=run_underlying t22;have A:Aside (∀j u,news[j]?=some u->w.cell? (a.add j)=some u):=hc;clear hc;obtain⟨_,_,FG⟩:=L.f41
 go_enter FG,SlBodyN.n41_ntmps ρ
 go_wp2_with (at_builtin;refine wpList_append_own _ rfl _ _ (ρ.t 22) rfl w.heap.size (ρ.t 23) i0 z size bytes t22 hi hz0 hz1 hz2 hzs hsz _ _ _ rfl (World.ownsRow_made w #[] 0 (jg _) (Au _) η) a n c news rfl ?qc1 ?qc2 ?qc3 ?qc4 ?qc5 ?qc6 ?_)
 case qc1=>exact hl
 case qc2=>exactλj u hj=>Lib.cell?_alloc_some _ (A.out j u hj)
 case qc3=>exact h1
 case qc4=>rw[uY];exact hn
 case qc5=>rw[uY];exact hbig
 case qc6=>simp
 intro v' w1 hown hgrow hnil
 go_wp2
 go_ret
 exact⟨v',rfl,by simpa using hown,((Below.refl _ w).alloc (jg _) _).grown hgrow η (by intro k hk;simp[Value.ownBlock]at hk;omega)⟩
theorem wM{P:Program}[Wld P]{ρ:Ren}(L:SlLaysE0.n41 P ρ)(hb:fE P (ρ.f 41)=true)(i0:TypeInfo)(z:Value){k:Nat}(hi:P.info? (ρ.t 23)=some i0)(hz0:i0.zero=some z)(hz1:i0.size=k)(hby:i0.bytes<=1000000)(hzs:z.cells.size=k)(hk:0<k)
 (z23:∀w,(Go.sizeOf (ρ.t 23)).run P w=.ok k w) {es:List (List Cell)} (hn:es.length<=1000000):Den P (ρ.f 41) [.c (.sl k es)] (.own (ρ.t 23) k es):=by
 refine Den.of ⟨hb,λw X vs hW hX hl hr=>?_⟩ rfl
 match vs,hl with
 |[u],_ =>
 have hu:RepC w X u (.sl k es):=by
  have:=hr 0 u _ rfl rfl;cases this with
  |c h=>exact h
 obtain⟨A,cap,uss,rfl,hcap,hmx,hc,hS⟩:=RepS.of_sl hu
 have hone:∀us∈uss,∀u∈us,u.oneCell'=true:=λus hu=>by
  obtain⟨j,hj,rfl⟩:=Vt hu;exact(hS.get j _ _ (pW hj) (pW (by rw[<-hS.len];exact hj))).one
 have hfl:uss.flatten.length=es.length*k:=by rw[fC hS.sz,hS.len]
 cases A with
 |none =>
  have h0:uss.flatten=[]:=by
   by_cases h:uss.flatten=[]
   .exact h
   .obtain⟨ad,h1,_⟩:=hc h;cases h1
  rw[h0]at hfl
  have:es=[]:=by
   rcases yD es.length with h|h
   .exact UR h
   .have:=Nat.mul_pos h hk;simp at hfl;omega
  subst this;refine Calls.mono (AnyE.slices_Clone_nil L _ _ w) ?_;rintro e w' ⟨rfl,rfl⟩;exact⟨_,rfl,⟨[_],[_],[],.inr ⟨rfl,rfl,rfl⟩,η,List.nodup_nil,.own0 hk .nil⟩,Below.refl _ _⟩
 |some a =>
  refine Calls.mono (V9 L i0 z k i0.bytes hi hz0 hz1 rfl hzs hk z23 a es.length cap uss.flatten w hfl (by unfold maxLen;omega) (fZ (MZ hn hby) ω) (λj u hj=>?_) (λu hu=>?_)) ?_
  .obtain⟨ad,h1,_,_,h2⟩:=hc (λh=>by rw[h]at hj;cases hj);cases h1;exact h2 j u hj
  .obtain⟨us,h1,h2⟩:=List.mem_flatten.1 hu;exact hone us h1 u h2
  .rintro e w' ⟨v',rfl,hown,hB⟩;refine⟨v',rfl, ?_,hB⟩;rcases hown with⟨_,⟨rfl,h0⟩|⟨g,cap',cur,rfl,h1,h2,h3,h4,h5,h6⟩⟩
   .have:es=[]:=UR h0;subst this;exact⟨[_],[_],[],.inr ⟨rfl,rfl,rfl⟩,η,List.nodup_nil,.own0 hk .nil⟩
   .have hS':=hS.ext ((Ext.call X hB).add h1);have hcur:cur=(uss.flatten++cur.toList.drop (es.length*k)).toArray:=by rw[<-h6,RP]
    have hlen:(uss.flatten++cur.toList.drop (es.length*k)).length=cur.size:=by rw[<-h6,RP];simp
    exact⟨[_],[_],[g],.inr ⟨rfl,rfl,rfl⟩,by simpa using h1,η,.own hk (by rw[<-hcur];exact h2) hS' (by rw[hlen];exact h5.symm) h4 h3 .nil⟩
end Go.Sw
namespace Go.Proofs.YtdpkjhnfklkkjaaGreat
open Go Go.RowKit Go.Sw Go.Proofs.Tryz
set_option maxRecDepth 100000
set_option maxHeartbeats 16000000
set_option synthInstance.maxSize 4000
set_option synthInstance.maxHeartbeats 400000
def opx(f:FuncId):Nat:=opT f [(221,1),(135,2),(119,3),(157,4),(123,5),(58,6),(227,8),(281,9),(66,10),(307,11),(116,1),(167,2),(117,3),(83,4),(184,5),(40,6),(242,8),(114,9),(51,10),(55,11),(100,12),(87,12),(214,13),(212,14)]
def rsX(f:FuncId):Nat:=opT f [(6,20),(10,66),(14,66),(15,20),(16,66),(25,20),(26,20),(27,20),(30,20),(41,66),(44,20),(46,20),(70,20),(71,20),(72,20),(79,20),(95,20),(96,20),(97,20),(107,66),(111,66),(112,66),(187,66),(188,66),(189,66),(190,66),(192,1),(193,66),(195,66),(198,66),(199,66),(220,1),(232,1),(253,66),(254,1),(259,66),(263,12),(265,1),(270,1),(271,1),(274,1),(276,1),(312,1),(314,1),(315,1),(318,1),(319,1)]
theorem aiU:OpDen prog opx where
 add:=(by intro f hf;have h:=jh ψ hf;simp only[jA,ou,List.not_mem_nil,or_false,Nat.reduceEqDiff,and_false,false_or,and_true]at h;(try rcases h with rfl|rfl)<;>(try subst h)<;>(intro a b ha hb;exact DenI.den (by first|trivial|exact zan)))
 sub:=(by intro f hf;have h:=jh ψ hf;simp only[jA,ou,List.not_mem_nil,or_false,Nat.reduceEqDiff,and_false,false_or,and_true]at h;(try rcases h with rfl|rfl)<;>(try subst h)<;>(intro a b ha hb;exact DenI.den (by first|trivial|exact zan)))
 mul:=(by intro f hf;have h:=jh ψ hf;simp only[jA,ou,List.not_mem_nil,or_false,Nat.reduceEqDiff,and_false,false_or,and_true]at h;(try rcases h with rfl|rfl)<;>(try subst h)<;>(intro a b ha hb;exact DenI.den (by first|trivial|exact zan)))
 cmp:=(by intro f hf;have h:=jh ψ hf;simp only[jA,ou,List.not_mem_nil,or_false,Nat.reduceEqDiff,and_false,false_or,and_true]at h;(try rcases h with rfl|rfl)<;>(try subst h)<;>(intro a b ha hb;exact DenI.den (by first|trivial|exact zan)))
 neg:=(by intro f hf;have h:=jh ψ hf;simp only[jA,ou,List.not_mem_nil,or_false,Nat.reduceEqDiff,and_false,false_or,and_true]at h;(try rcases h with rfl|rfl)<;>(try subst h)<;>(intro a ha;exact DenI.den (by first|trivial|exact zan)))
 sgn:=(by intro f hf;have h:=jh ψ hf;simp only[jA,ou,List.not_mem_nil,or_false,Nat.reduceEqDiff,and_false,false_or,and_true]at h;(try rcases h with rfl|rfl)<;>(try subst h)<;>(intro a ha;exact DenI.den (by first|trivial|exact zan)))
 over:=(by intro f hf;have h:=jh ψ hf;simp at h;try(subst h;intro a b ha hb h0;exact DenI.den (by first|trivial|exact zan)))
 div:=(by intro f hf;have h:=jh ψ hf;simp only[jA,ou,List.not_mem_nil,or_false,Nat.reduceEqDiff,and_false,false_or,and_true]at h;(try rcases h with rfl|rfl)<;>(try subst h)<;>(intro a b ha hb h0;exact(DenC.den (by(repeat' apply And.intro)<;>first|assumption|omega)).2 h0))
theorem afm:OpDen2 prog opx where
 sq1:=(by intro f hf;have h:=jh ψ hf;simp only[jA,ou,List.not_mem_nil,or_false,Nat.reduceEqDiff,and_false,false_or,and_true]at h;(try rcases h with rfl|rfl)<;>(try subst h)<;>(intro a ha hc;exact(DenC.den ω).1 hc))
 sq0:=(by intro f hf;have h:=jh ψ hf;simp only[jA,ou,List.not_mem_nil,or_false,Nat.reduceEqDiff,and_false,false_or,and_true]at h;(try rcases h with rfl|rfl)<;>(try subst h)<;>(intro a ha hc;exact(DenC.den ω).2 (by rw[hc];decide)))
 int:=(by intro f hf;have h:=jh ψ hf;simp only[jA,ou,List.not_mem_nil,or_false,Nat.reduceEqDiff,and_false,false_or,and_true]at h;(try rcases h with rfl|rfl)<;>(try subst h)<;>(intro n hn;exact DenI.den hn))
 frac:=(by intro f hf;have h:=jh ψ hf;simp only[jA,ou,List.not_mem_nil,or_false,Nat.reduceEqDiff,and_false,false_or,and_true]at h;(try rcases h with rfl|rfl)<;>(try subst h)<;>(intro n d hn;exact DenI.den hn))
 sqI:=(by intro f hf;have h:=jh ψ hf;simp only[jA,ou,List.not_mem_nil,or_false,Nat.reduceEqDiff,and_false,false_or,and_true]at h;(try rcases h with rfl|rfl)<;>(try subst h)<;>(intro n hn;have h:=(afj (n:Nat)).den ω;rw[if_neg ω,if_neg ω]at h;exact h))
 dmI:=(by intro f hf;have h:=jh ψ hf;simp only[jA,ou,List.not_mem_nil,or_false,Nat.reduceEqDiff,and_false,false_or,and_true]at h;(try rcases h with rfl|rfl)<;>(try subst h)<;>(intro a b ha hb h0;have h:=(SE a b).den (by first|omega|(constructor<;>omega));rw[if_neg h0,if_neg h0]at h;exact h))
 cmp4:=(by intro f hf;have h:=jh ψ hf;simp only[jA,ou,List.not_mem_nil,or_false,Nat.reduceEqDiff,and_false,false_or,and_true]at h;(try rcases h with rfl|rfl)<;>(try subst h)<;>(intro a b c d e g h1 h2 h3 h4;exact DenI.den ⟨ω,ω,ω,ω,ω,ω,h3,h4⟩))
def afi:Go.Shelf.Ren:=⟨λn=>if n=41 then 27 else n,λn=>if n=22 then 43 else if n=23 then 37 else n,id⟩
theorem adK:Go.Proofs.SlLaysE0.n41 prog afi where
 mixed:=dF
 f41:=⟨ "slices.Clone[[]swarf/api.Point,swarf/api.Point]",ψ,Eq.trans func27 (congrArg some (Eq.refl _))⟩
 t4:=underlying4
 a4:=Tryz.isAgg4
 z4:=Tryz.sizeOf4
 v4:=zeroValue4
 t22:=underlying43
 a22:=Tryz.isAgg43
 z22:=Tryz.sizeOf43
 v22:=zeroValue43
theorem Dv{es:List (List Cell)}(hn:es.length<=1000000):Den prog 27 [.c (.sl 20 es)] (.own 37 20 es):=by
 obtain⟨i0,z,h1,h2,h3,h4,h5⟩:=CJ (P:=prog) (t:=37) (k:=20) ζ;exact wM adK ζ i0 z h1 h2 h3 h5 h4 ψ Tryz.sizeOf37 hn
def aep:Go.Shelf.Ren:=⟨λn=>if n=41 then 193 else n,λn=>if n=22 then 49 else if n=23 then 39 else n,id⟩
theorem aex:Go.Proofs.SlLaysE0.n41 prog aep where
 mixed:=dF
 f41:=⟨ "slices.Clone[[]swarf/api.Curve,swarf/api.Curve]",ψ,Eq.trans func193 (congrArg some (Eq.refl _))⟩
 t4:=underlying4
 a4:=Tryz.isAgg4
 z4:=Tryz.sizeOf4
 v4:=zeroValue4
 t22:=underlying49
 a22:=Tryz.isAgg49
 z22:=Tryz.sizeOf49
 v22:=zeroValue49
theorem adL{es:List (List Cell)}(hn:es.length<=1000000):Den prog 193 [.c (.sl 66 es)] (.own 39 66 es):=by
 obtain⟨i0,z,h1,h2,h3,h4,h5⟩:=CJ (P:=prog) (t:=39) (k:=66) ζ;exact wM aex ζ i0 z h1 h2 h3 h5 h4 ψ Tryz.sizeOf39 hn
def aew:Go.Shelf.Ren:=⟨λn=>if n=4 then 259 else n,λn=>if n=22 then 49 else if n=25 then 39 else n,id⟩
theorem ae1:Go.Proofs.Lays8.n4 prog aew where
 mixed:=dF
 f4:=⟨ "slices.Grow[[]swarf/api.Curve,swarf/api.Curve]",ψ,Eq.trans func259 (congrArg some (Eq.refl _))⟩
 t0:=underlying0
 a0:=Tryz.isAgg0
 z0:=Tryz.sizeOf0
 v0:=zeroValue0
 t3:=underlying3
 a3:=Tryz.isAgg3
 z3:=Tryz.sizeOf3
 v3:=zeroValue3
 t4:=underlying4
 a4:=Tryz.isAgg4
 z4:=Tryz.sizeOf4
 v4:=zeroValue4
 t9:=underlying9
 a9:=Tryz.isAgg9
 z9:=Tryz.sizeOf9
 v9:=zeroValue9
 t20:=underlying20
 a20:=Tryz.isAgg20
 z20:=Tryz.sizeOf20
 v20:=zeroValue20
 t22:=underlying49
 a22:=Tryz.isAgg49
 z22:=Tryz.sizeOf49
 v22:=zeroValue49
theorem abX{n:Nat}(hn:n<=1000000):Den prog 259 [.c (.v (.slice none 0 0)),.c (.v (.int .i64 (n:Nat)))] (.own 39 66 []):=by
 obtain⟨i0,z,h1,h2,h3,h4,h5⟩:=CJ (P:=prog) (t:=39) (k:=66) ζ;have h:=Wu ae1 ζ i0 z h1 h2 ω ω h5 (n:=n) hn;rw[h3]at h;exact h
@[reducible] def pL(l:List Pnt):Cell:=.sl (szL l) (l.map λp=>aY p)
theorem ag2{A B C X Y Q:Rat}(h:bD (xX A B C X Y Q) = -1):aW [AV.c (.sl 0 [])]=AV.c (pL (Dj A B C X Y Q)):=by rw[<-akH (ahS h)];rfl
theorem ahe{A B C X Y Q:Rat}(h:xX A B C X Y Q=0):aW [AV.c (.sl 20 [aY (jl (ug A B C X Y) (uf A B C X Y))])]=AV.c (pL (Dj A B C X Y Q)):=by rw[<-akN h];rfl
theorem Ry{A B C X Y Q:Rat}(h:¬bD (xX A B C X Y Q) = -1)(h2:¬xX A B C X Y Q=0){u v:Rat}(hd:u=lV A B/\v=l9 A B):aW [AV.c (.sl 20 [aY (Dz (ug A B C X Y) (-u) (uf A B C X Y) (-v) (xX A B C X Y Q)),aY (Dz (ug A B C X Y) u (uf A B C X Y) v (xX A B C X Y Q))])]=AV.c (pL (Dj A B C X Y Q)):=by
 rw[<-ajK (λg=>by have:=adw h;grind) h2 hd.1 hd.2];rfl
instance akJ(a b:Rat):DenI prog 223 [R a,R b] (rz a<=4000000/\rz b<=4000000) (R (a+b)):=⟨λhp=>by
 have:RzB a 4000000:=⟨hp.1⟩
 have:RzB b 4000000:=⟨hp.2⟩
 all_goals refine aS func223 rfl ?_
 all_goals(repeat'((try(conv=>whnf));first
  |refine ak ?_ ?_|apply zaa))
 all_goals(try apply zab)
 all_goals first
  |rfl|exact zaf⟩
instance aki(a b:Rat):DenI prog 142 [R a,R b] (rz a<=4000000/\rz b<=4000000) (R (a-b)):=⟨λhp=>by
 have:RzB a 4000000:=⟨hp.1⟩
 have:RzB b 4000000:=⟨hp.2⟩
 all_goals refine aS func142 rfl ?_
 all_goals(repeat'((try(conv=>whnf));first
  |refine ak ?_ ?_|apply zaa))
 all_goals(try apply zab)
 all_goals first
  |rfl|exact zaf⟩
instance al5(a b:Rat):DenI prog 143 [R a,R b] (rz a<=4000000/\rz b<=4000000) (R (a*b)):=⟨λhp=>by
 have:RzB a 4000000:=⟨hp.1⟩
 have:RzB b 4000000:=⟨hp.2⟩
 all_goals refine aS func143 rfl ?_
 all_goals(repeat'((try(conv=>whnf));first
  |refine ak ?_ ?_|apply zaa))
 all_goals(try apply zab)
 all_goals first
  |rfl|exact zaf⟩
instance amF(a b:Rat):DenI prog 144 [R a,R b] (rz a<=4000000/\rz b<=4000000/\¬b=0) (R (a / b)):=⟨λhp=>by
 have:RzB a 4000000:=⟨hp.1⟩
 have:RzB b 4000000:=⟨hp.2.1⟩
 have hpre:=hp.2.2
 all_goals refine aS func144 rfl ?_
 all_goals(repeat'((try(conv=>whnf));first
  |refine aQ ?_ (λ_=>?_) (λ_=>?_)|apply zaa))
 all_goals(try apply zab)
 all_goals first
  |rfl|exact zaf|(exfalso;simp_all;done)⟩
instance aj0(X Y Q U V W:Rat):DenI prog 138 [Q3 X Y Q,Q3 U V W] (rz X<=4000000/\rz Y<=4000000/\rz Q<=4000000/\rz U<=4000000/\rz V<=4000000/\rz W<=4000000) (.bool ((decide (X=U) && decide (Y=V)))):=⟨λhp=>by
 have:RzB X 4000000:=⟨hp.1⟩
 have:RzB Y 4000000:=⟨hp.2.1⟩
 have:RzB Q 4000000:=⟨hp.2.2.1⟩
 have:RzB U 4000000:=⟨hp.2.2.2.1⟩
 have:RzB V 4000000:=⟨hp.2.2.2.2.1⟩
 have:RzB W 4000000:=⟨hp.2.2.2.2.2⟩
 all_goals refine aS func138 rfl ?_
 all_goals(repeat'((try(conv=>whnf));first
  |refine ak ?_ ?_|(with_reducible first|refine aN ?_|refine aI ?_|refine aO (λ_=>?_) (λ_=>?_))|apply zaa))
 all_goals(try apply zab)
 all_goals(try simp only[bn]at *)
 all_goals first
  |exact zah|exact zaf⟩
instance anj(a b d e c:Rat):DenI prog 283 [Q5 a b d e c] (rz a<=4000000/\rz b<=4000000/\rz d<=4000000/\rz e<=4000000/\rz c<=4000000) (Q5 a b d e (eY b e c)):=⟨λhp=>by
 have:RzB a 4000000:=⟨hp.1⟩
 have:RzB b 4000000:=⟨hp.2.1⟩
 have:RzB d 4000000:=⟨hp.2.2.1⟩
 have:RzB e 4000000:=⟨hp.2.2.2.1⟩
 have:RzB c 4000000:=⟨hp.2.2.2.2⟩
 all_goals refine aS func283 rfl ?_
 all_goals(repeat'((try(conv=>whnf));first
  |refine aC ?_|(with_reducible first|refine aN ?_|refine aI ?_|refine aO (λ_=>?_) (λ_=>?_))|apply zaa))
 all_goals(try simp only[bn]at *)
 all_goals first
  |exact zah⟩
instance anh(a b c d e f:Rat):DenI prog 226 [Q3 a b c,Q3 d e f] (rz a<=4000000/\rz b<=4000000/\rz c<=4000000/\rz d<=4000000/\rz e<=4000000/\rz f<=4000000/\(b=0\/e=0\/c=f)) (.tup [Q5 a b d e (eY b e (if b=0 then f else c)),.int .i64 0]):=⟨λhp=>by
 have:RzB a 4000000:=⟨hp.1⟩
 have:RzB b 4000000:=⟨hp.2.1⟩
 have:RzB c 4000000:=⟨hp.2.2.1⟩
 have:RzB d 4000000:=⟨hp.2.2.2.1⟩
 have:RzB e 4000000:=⟨hp.2.2.2.2.1⟩
 have:RzB f 4000000:=⟨hp.2.2.2.2.2.1⟩
 have hpre:=hp.2.2.2.2.2.2
 all_goals refine aS func226 rfl ?_
 all_goals(repeat'((try(conv=>whnf));first
  |refine aC ?_|refine ak ?_ ?_|(with_reducible first|refine aN ?_|refine aI ?_|refine aO (λ_=>?_) (λ_=>?_)|refine aP (λ_=>?_) (λ_=>?_))|apply zaa))
 all_goals(try apply zab)
 all_goals(try simp only[bn]at *)
 all_goals first
  |exact zah|exact zaf|(exfalso;simp_all;done)⟩
instance anr(x u y v k:Rat):DenI prog 141 [R x,R u,R y,R v,R k] (rz x<=90000/\rz u<=90000/\rz y<=90000/\rz v<=90000/\rz k<=90000/\0<=k) (.agg (aY (Dz x u y v k))):=⟨λhp=>by
 have:RzB x 90000:=⟨hp.1⟩
 have:RzB u 90000:=⟨hp.2.1⟩
 have:RzB y 90000:=⟨hp.2.2.1⟩
 have:RzB v 90000:=⟨hp.2.2.2.1⟩
 have:RzB k 90000:=⟨hp.2.2.2.2.1⟩
 have hpre:=hp.2.2.2.2.2
 all_goals refine aS func141 rfl ?_
 all_goals(repeat'((try(conv=>whnf));first
  |refine ak ?_ ?_|apply zaa))
 all_goals(try apply zab)
 all_goals first
  |rfl|(refine⟨bF ω,bF ω,bF ω,bF ω,bF ω,bF ω,ahx u v k⟩)|exact zaf⟩
instance akX(A B C X Y Q:Rat):DenI prog 140 [Q3 A B C,Q3 X Y Q] (HL A B C X Y Q) (.tup [R (xX A B C X Y Q),Q2 (ug A B C X Y) (uf A B C X Y)]):=⟨λhp=>by
 obtain⟨Ha,Hb,Hc,Hx,Hy,Hq,Hn⟩:=id hp;have:RzB A 60:=⟨fZ (dM Ha) ψ⟩
 have:RzB B 60:=⟨fZ (dM Hb) ψ⟩
 have:RzB C 400:=⟨fZ (dM Hc) ψ⟩
 have:RzB X 60:=⟨fZ (dM Hx) ψ⟩
 have:RzB Y 60:=⟨fZ (dM Hy) ψ⟩
 have:RzB Q 200:=⟨fZ (dM Hq) ψ⟩
 have hft:=hp.ft;have:RzB (ug A B C X Y) 800:=⟨fZ (dM hft.1) ψ⟩
 have:RzB (uf A B C X Y) 800:=⟨fZ (dM hft.2.1) ψ⟩
 have:RzB (xX A B C X Y Q) 5000:=⟨fZ (dM hft.2.2) ψ⟩
 all_goals refine aS func140 rfl ?_
 all_goals(repeat'((try(conv=>whnf));first
  |refine ak ?_ ?_|refine zac ζ ?_|apply zaa))
 all_goals(try apply zab)
 all_goals first
  |rfl|(refine⟨bF ω,bF ω,Bo hp.n⟩)|exact zaf⟩
instance amI(A B C X Y Q:Rat):DenI prog 71 [Q3 A B C,Q3 X Y Q] (HL A B C X Y Q) (.c (pL (Dj A B C X Y Q))):=⟨λhp=>by
 obtain⟨Ha,Hb,Hc,Hx,Hy,Hq,Hn⟩:=id hp;have:RzB A 60:=⟨fZ (dM Ha) ψ⟩
 have:RzB B 60:=⟨fZ (dM Hb) ψ⟩
 have:RzB C 400:=⟨fZ (dM Hc) ψ⟩
 have:RzB X 60:=⟨fZ (dM Hx) ψ⟩
 have:RzB Y 60:=⟨fZ (dM Hy) ψ⟩
 have:RzB Q 200:=⟨fZ (dM Hq) ψ⟩
 have hft:=hp.ft;have:RzB (ug A B C X Y) 800:=⟨fZ (dM hft.1) ψ⟩
 have:RzB (uf A B C X Y) 800:=⟨fZ (dM hft.2.1) ψ⟩
 have:RzB (xX A B C X Y Q) 5000:=⟨fZ (dM hft.2.2) ψ⟩
 all_goals refine aS func71 rfl ?_
 all_goals(repeat'((try(conv=>whnf));first
  |refine aC ?_|refine ak ?_ ?_|(with_reducible first|refine aN ?_|refine aI ?_|refine aO (λ_=>?_) (λ_=>?_))|refine zac ζ ?_|apply zaa))
 all_goals(try apply zab)
 all_goals(try simp only[bn]at *)
 all_goals first
  |exact ag2 (by with_reducible assumption)|exact ahe (by with_reducible assumption)|exact Ry (by with_reducible assumption) (by with_reducible assumption) (agZ (by with_reducible assumption))|exact Ry (by with_reducible assumption) (by with_reducible assumption) (ahf (by with_reducible assumption) (by with_reducible assumption))|exact Ry (by with_reducible assumption) (by with_reducible assumption) (ah0 (by with_reducible assumption) (by with_reducible assumption))|exact Ry (by with_reducible assumption) (by with_reducible assumption) (aie (by with_reducible assumption) (by with_reducible assumption))|(refine⟨bF ω,bF ω,bF ω,bF ω,bF ω,adw (by with_reducible assumption)⟩)|exact zaf⟩
end Go.Proofs.YtdpkjhnfklkkjaaGreat
