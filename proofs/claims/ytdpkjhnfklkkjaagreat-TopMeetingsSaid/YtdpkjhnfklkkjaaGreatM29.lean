/-
  Rules of the abstract run, plain laws, and what functions answer, for the law TopMeetings.
  Conditions: none.
-/
import Derived.Test.YtdpkjhnfklkkjaaGreatM28
set_option linter.all false
namespace Go.Sw
theorem Me{α:Type}{f:α->Bool}{d:α}{l:List α}{i:Nat}(h:i<l.length):(l.take (i+1)).any f=((l.take i).any f||f (l.getD i d)):=by
 rw[lG (d:=d) h,List.any_append,List.any_cons,List.any_nil,fG]
theorem H6{c d:Cv}(hc:GC c)(hd:GC d):LawC c d:=adP hc.ok hd.ok
theorem PN{c d:Cv}(L:LawC c d):(c.meet d).all c.on=true/\(c.meet d).all d.on=true:=by
 constructor<;>rw[oH]
 .exactλp hp=>(L.has p hp).2.1
 .exactλp hp=>(L.has p hp).2.2
def Rt(a:Cv)(B:List Cv)(j:Nat):Bool:=(B.take j).any λb=>a.sam b
theorem JY{c:Cv}(hc:QC c){l:List Pnt}(h:∀p∈l,PB p):∀a∈c.split l,QC a:=by
 intro a ha;refine⟨(yO hc.1 h).1 a ha, ?_⟩;unfold Cv.split at ha;obtain⟨x,_,rfl⟩:=iV.1 ha;exact hc.2
theorem ahm{a b:Bool}(h:a=b)(g:(a != b)=true):False:=by subst h;cases a<;>simp at g
theorem al6{x s:Bool}(h:x=true):true=(x||s):=by rw[h];rfl
theorem amk{x e r:Bool}(h:x=false)(g:e=true):true=(x ||(e||r)):=by rw[h,g];rfl
theorem amD{x e r:Bool}(h:x=false)(g:e=false):r=(x ||(e||r)):=by rw[h,g];rfl
theorem ahM{m e r:Bool}(h:m=(e||r))(g:e=true)(k:(m != true)=true):False:=by rw[h,g]at k;cases k
theorem agA{m e r:Bool}(h:m=(e||r))(g:e=false)(k:(m != r)=true):False:=by rw[h,g]at k;cases r<;>cases k
theorem ak6{a:Cv}{B:List Cv}{x:Bool}:x=(x||Rt a B 0):=by unfold Rt;rw[List.take_zero,List.any_nil,fG]
theorem aky{a:Cv}{B:List Cv}{j:Nat}{d:Cv}{x:Bool}(h:j<B.length):((x||Rt a B j)||a.sam (B.getD j d))=(x||Rt a B (j+1)):=by
 unfold Rt;rw[Me (d:=d) h,Bool.or_assoc]
theorem akP{a:Cv}{B:List Cv}{j:Nat}(h:B.length<=j):Rt a B j=B.any λb=>a.sam b:=by unfold Rt;rw[MV h]
theorem ac4{p q:Bool}(h:(p||q)=true)(g:(!p)=true)(k:(!q)=true):False:=by cases p<;>cases q<;>simp_all
theorem ae8{a b:Bool}(h:a=b):(a == b)=true:=by subst h;cases a<;>rfl
end Go.Sw
namespace Go.Proofs.YtdpkjhnfklkkjaaGreat
open Go Go.RowKit Go.Sw Go.Proofs.Tryz
set_option maxRecDepth 100000
set_option maxHeartbeats 16000000
set_option synthInstance.maxSize 4000
set_option synthInstance.maxHeartbeats 400000
theorem agy{k u k2 u2 n:Nat}{a b c d e f a2 b2 c2 d2 e2 f2:Int}{k' u' k2' u2' n':Nat}{a' b' c' d' e' f' a2' b2' c2' d2' e2' f2':Int}{z y:Cv}(gz:GC z)(gy:GC y)(hA:Den prog 4 [.agg [.v (.int .u8 (k:Nat)),.v (.int .u8 (u:Nat)),.v (.int .i8 a),.v (.int .i8 b),.v (.int .i8 c),.v (.int .i8 d),.v (.int .i8 e),.v (.int .i8 f),.v (.int .u8 (k2:Nat)),.v (.int .u8 (u2:Nat)),.v (.int .i8 a2),.v (.int .i8 b2),.v (.int .i8 c2),.v (.int .i8 d2),.v (.int .i8 e2),.v (.int .i8 f2),.v (.int .u8 (n:Nat))]] (.tup [.agg (dL z),.bool true]))(hB:Den prog 4 [.agg [.v (.int .u8 (k':Nat)),.v (.int .u8 (u':Nat)),.v (.int .i8 a'),.v (.int .i8 b'),.v (.int .i8 c'),.v (.int .i8 d'),.v (.int .i8 e'),.v (.int .i8 f'),.v (.int .u8 (k2':Nat)),.v (.int .u8 (u2':Nat)),.v (.int .i8 a2'),.v (.int .i8 b2'),.v (.int .i8 c2'),.v (.int .i8 d2'),.v (.int .i8 e2'),.v (.int .i8 f2'),.v (.int .u8 (n':Nat))]] (.tup [.agg (dL y),.bool true])):nH (Den prog) tab (vY 7 (Tryz.f3.body.getD .skip)) (λz9 e9 b9=>z9=.normal/\SubE [(5,.ptr 5 0),(7,.ptr 7 0),(9,.c (.sl 20 ((z.meet y).map λp=>aY p))),(10,.bool (z.com y)),(11,.c (.sl 20 ((y.meet z).map λp=>aY p)))] e9/\SubB [(5,.var (dL z)),(7,.var (dL y))] b9) (uM 0 [.agg [.v (.int .u8 (k:Nat)),.v (.int .u8 (u:Nat)),.v (.int .i8 a),.v (.int .i8 b),.v (.int .i8 c),.v (.int .i8 d),.v (.int .i8 e),.v (.int .i8 f),.v (.int .u8 (k2:Nat)),.v (.int .u8 (u2:Nat)),.v (.int .i8 a2),.v (.int .i8 b2),.v (.int .i8 c2),.v (.int .i8 d2),.v (.int .i8 e2),.v (.int .i8 f2),.v (.int .u8 (n:Nat))],.agg [.v (.int .u8 (k':Nat)),.v (.int .u8 (u':Nat)),.v (.int .i8 a'),.v (.int .i8 b'),.v (.int .i8 c'),.v (.int .i8 d'),.v (.int .i8 e'),.v (.int .i8 f'),.v (.int .u8 (k2':Nat)),.v (.int .u8 (u2':Nat)),.v (.int .i8 a2'),.v (.int .i8 b2'),.v (.int .i8 c2'),.v (.int .i8 d2'),.v (.int .i8 e2'),.v (.int .i8 f2'),.v (.int .u8 (n':Nat))]]) []:=by
 have L:=H6 gz gy;have qz:=gz.qc;have qy:=gy.qc;have hm:=nG qz qy;have hm2:=nG qy qz
 haveI i0:DenI prog 5 [] True (.bool true):=QH
 haveI i1:DenI prog 4 [.agg [.v (.int .u8 (k:Nat)),.v (.int .u8 (u:Nat)),.v (.int .i8 a),.v (.int .i8 b),.v (.int .i8 c),.v (.int .i8 d),.v (.int .i8 e),.v (.int .i8 f),.v (.int .u8 (k2:Nat)),.v (.int .u8 (u2:Nat)),.v (.int .i8 a2),.v (.int .i8 b2),.v (.int .i8 c2),.v (.int .i8 d2),.v (.int .i8 e2),.v (.int .i8 f2),.v (.int .u8 (n:Nat))]] True (.tup [.agg (dL z),.bool true]):=⟨λ_=>hA⟩
 haveI i2:DenI prog 4 [.agg [.v (.int .u8 (k':Nat)),.v (.int .u8 (u':Nat)),.v (.int .i8 a'),.v (.int .i8 b'),.v (.int .i8 c'),.v (.int .i8 d'),.v (.int .i8 e'),.v (.int .i8 f'),.v (.int .u8 (k2':Nat)),.v (.int .u8 (u2':Nat)),.v (.int .i8 a2'),.v (.int .i8 b2'),.v (.int .i8 c2'),.v (.int .i8 d2'),.v (.int .i8 e2'),.v (.int .i8 f2'),.v (.int .u8 (n':Nat))]] True (.tup [.agg (dL y),.bool true]):=⟨λ_=>hB⟩
 all_goals(repeat'((try rw[Jt]);(try rw[EP]);(try(conv=>whnf));first
  |refine aC ?_|refine ak ?_ ?_|(with_reducible first|refine aN ?_|refine aI ?_)|refine fA ψ ?_|(with_reducible first|refine aO (λ_=>?_) (λ_=>?_)|refine aP (λ_=>?_) (λ_=>?_))|refine zad (λ_=>?_) (λ_=>?_)))
 all_goals(try apply zab)
 all_goals(try simp only[bW,dI]at *)
 all_goals first
  |trivial|exact⟨qz.1,qy.1⟩|(exfalso;exact ahm L.com (by with_reducible assumption))|(exfalso;have:=L.len;omega)|(exfalso;have:=L.two (NW (by with_reducible assumption)) (NW (by with_reducible assumption));omega)
instance al2(l:List Pnt)(p:Pnt):DenI prog 8 [.c (.sl 20 (l.map λp=>aY p)),.agg (aY p)] (PB p/\(∀q∈l,PB q)/\l.length<=1000) (.bool (l.any λq=>pE p q)):=⟨λhp=>by
 refine aS func8 rfl ?_
 all_goals(repeat'((try(conv=>whnf));first
  |refine ak ?_ ?_|apply zaa))
 all_goals(try apply zab)
 all_goals first
  |rfl|exact hp⟩
theorem agn{z y:Cv}(gz:GC z)(gy:GC y):nH (Den prog) tab (vY 1 (mJ 7 (Tryz.f3.body.getD .skip))) (λz9 e9 b9=>z9=.normal/\SubE [(5,.ptr 5 0),(7,.ptr 7 0),(9,.c (.sl 20 ((z.meet y).map λp=>aY p))),(10,.bool (z.com y))] e9/\SubB [(5,.var (dL z)),(7,.var (dL y))] b9) ([(5,.ptr 5 0),(7,.ptr 7 0),(9,.c (.sl 20 ((z.meet y).map λp=>aY p))),(10,.bool (z.com y)),(11,.c (.sl 20 ((y.meet z).map λp=>aY p)))]) [(5,.var (dL z)),(7,.var (dL y))]:=by
 have L:=H6 gz gy;have qz:=gz.qc;have qy:=gy.qc;have hm:=nG qz qy;have hm2:=nG qy qz
 all_goals first
  |((conv=>whnf);refine Sw.Loop.inv (α:=Nat) (λx=>[(5,.ptr 5 0),(7,.ptr 7 0),(9,.c (.sl 20 ((z.meet y).map λp=>aY p))),(10,.bool (z.com y)),(11,.c (.sl 20 ((y.meet z).map λp=>aY p))),(87,.c (.sl 20 ((z.meet y).map λp=>aY p))),(88,.int .i64 ((z.meet y).length:Nat)),(89,.int .i64 (x:Nat))]) (λx=>[(5,.var (dL z)),(7,.var (dL y))]) (λx=>x<=(z.meet y).length/\True) (λx=>(z.meet y).length-x) 0 ?_ ?_ ?_ (λx ⟨hx,_⟩=>?_))
 all_goals(repeat'((try(conv=>whnf));first
  |refine ak ?_ ?_|(with_reducible first|refine aN ?_|refine aI ?_|refine aO (λ_=>?_) (λ_=>?_))|refine zad (λ_=>?_) (λ_=>?_)|refine aT O0 ?_ ?_))
 all_goals(try apply zab)
 all_goals(try simp only[bW,dI]at *)
 all_goals first|(show SubE _ _;repeat'(first|exact trivial|refine And.intro ?_ ?_))|(show SubB _ _;repeat'(first|exact trivial|refine And.intro ?_ ?_))|skip
 all_goals(try rfl)
 all_goals first
  |omega|trivial|exact⟨Au _,trivial⟩|exact⟨bP hm.1 ω,hm2.1,fZ hm2.2 ψ⟩|exact⟨qz.1,bP hm.1 ω⟩|exact⟨qy.1,bP hm.1 ω⟩|(exfalso;have h3:=L.has _ (bP (P:=λp=>p∈z.meet y) (d:=O0) (λp hp=>hp) (show x<_ by omega));first|(have q:=NW (by with_reducible assumption:(!((y.meet z).any λq=>pE ((z.meet y).getD x O0) q))=true);rw[h3.1]at q;cases q)|(have q:=NW (by with_reducible assumption:(!z.on ((z.meet y).getD x O0))=true);rw[h3.2.1]at q;cases q)|(have q:=NW (by with_reducible assumption:(!y.on ((z.meet y).getD x O0))=true);rw[h3.2.2]at q;cases q))|((conv=>whnf);exact⟨x+1,⟨⟨rfl,rfl,rfl,rfl,rfl,rfl,rfl,(show some (AV.int .i64 _)=some (AV.int .i64 _)from by first|(refine congrArg (λz=>some (AV.int .i64 z)) ?_;(try dsimp only);omega)|(refine congrArg (λz=>some (AV.int .i64 z)) ?_;(try dsimp only);rw[bG ω ω];omega)),trivial⟩,⟨rfl,rfl,trivial⟩,⟨ω,trivial⟩,by show(z.meet y).length-(x+1)<(z.meet y).length-x;omega⟩⟩)
theorem ahE{z y:Cv}(gz:GC z)(gy:GC y):nH (Den prog) tab (vY 3 (mJ 8 (Tryz.f3.body.getD .skip))) (λz9 e9 b9=>z9=.normal/\SubE [(10,.bool (z.com y)),(15,.c (.sl 66 ((z.split (z.meet y)).map λc=>dL c))),(17,.c (.sl 66 ((y.split (z.meet y)).map λc=>dL c)))] e9) ([(5,.ptr 5 0),(7,.ptr 7 0),(9,.c (.sl 20 ((z.meet y).map λp=>aY p))),(10,.bool (z.com y))]) [(5,.var (dL z)),(7,.var (dL y))]:=by
 have L:=H6 gz gy;have qz:=gz.qc;have qy:=gy.qc;have hm:=nG qz qy;have hm2:=nG qy qz
 haveI s1:DenI prog 10 [.agg (dL z),.c (.sl 20 ((z.meet y).map λp=>aY p))] True (.tup [.c (.sl 66 ((z.split (z.meet y)).map λc=>dL c)),.int .i64 0]):=⟨λ_=>((W9 z (z.meet y)).den ⟨qz.1,hm.1,fZ hm.2 ψ⟩).1 (PN L).1⟩
 haveI s2:DenI prog 10 [.agg (dL y),.c (.sl 20 ((z.meet y).map λp=>aY p))] True (.tup [.c (.sl 66 ((y.split (z.meet y)).map λc=>dL c)),.int .i64 0]):=⟨λ_=>((W9 y (z.meet y)).den ⟨qy.1,hm.1,fZ hm.2 ψ⟩).1 (PN L).2⟩
 all_goals(repeat'((try rw[Jt]);(try rw[EP]);(try(conv=>whnf));first
  |refine aC ?_|(with_reducible refine aI ?_)|refine fA (by simp only[ji,mg];decide) ?_))
 all_goals(try simp only[bW,dI]at *)
 all_goals first
  |trivial
theorem aiM{z y:Cv}(gz:GC z)(gy:GC y):nH (Den prog) tab (mJ 11 (Tryz.f3.body.getD .skip)) (Hz tab Tryz.f3 [none] (.bool true)) [(10,.bool (z.com y)),(15,.c (.sl 66 ((z.split (z.meet y)).map λc=>dL c))),(17,.c (.sl 66 ((y.split (z.meet y)).map λc=>dL c)))] []:=by
 have L:=H6 gz gy;have qz:=gz.qc;have qy:=gy.qc;have hm:=nG qz qy;have hm2:=nG qy qz;have qf:=JY qz hm.1;have qs:=JY qy hm.1;have lf:=(yO qz.1 hm.1).2;have ls:=(yO qy.1 hm.1).2;have hm4:=hm.2
 all_goals first
  |((conv=>whnf);refine Sw.Loop.inv (α:=Nat) (λi=>[(10,.bool (z.com y)),(17,.c (.sl 66 ((y.split (z.meet y)).map λc=>dL c))),(19,.bool (((z.split (z.meet y)).take i).any λa=>(y.split (z.meet y)).any λb=>a.sam b)),(128,.c (.sl 66 ((z.split (z.meet y)).map λc=>dL c))),(129,.int .i64 ((z.split (z.meet y)).length:Nat)),(130,.int .i64 (i:Nat))]) (λi=>[]) (λi=>i<=(z.split (z.meet y)).length/\True) (λi=>(z.split (z.meet y)).length-i) 0 ?_ ?_ ?_ (λi ⟨hi,_⟩=>?_))
 all_goals(repeat'((try(conv=>whnf));first
  |(with_reducible refine aO (λ_=>?_) (λ_=>?_))|refine aT O1 ?_ ?_|apply zaa))
 all_goals(try apply zab)
 all_goals(try simp only[bW,dI]at *)
 all_goals(try(have qa:QC ((z.split (z.meet y)).getD i O1):=bP qf ω;have hap:((z.split (z.meet y)).getD i O1)∈(z.split (z.meet y)):=(bP (P:=λp=>p∈(z.split (z.meet y))) (d:=O1) (λp hp=>hp) (show i<_ by omega))))
 all_goals first
  |((conv=>whnf);refine Sw.Loop.inv (α:=Nat) (λj=>[(10,.bool (z.com y)),(17,.c (.sl 66 ((y.split (z.meet y)).map λc=>dL c))),(19,.bool ((((z.split (z.meet y)).take i).any λa=>(y.split (z.meet y)).any λb=>a.sam b)||Rt ((z.split (z.meet y)).getD i O1) (y.split (z.meet y)) j)),(128,.c (.sl 66 ((z.split (z.meet y)).map λc=>dL c))),(129,.int .i64 ((z.split (z.meet y)).length:Nat)),(130,.int .i64 (i:Nat)),(21,.ptr 21 0),(134,.c (.sl 66 ((y.split (z.meet y)).map λc=>dL c))),(135,.int .i64 ((y.split (z.meet y)).length:Nat)),(136,.int .i64 (j:Nat))]) (λj=>[(21,.var (dL ((z.split (z.meet y)).getD i O1)))]) (λj=>j<=(y.split (z.meet y)).length/\True) (λj=>(y.split (z.meet y)).length-j) 0 ?_ ?_ ?_ (λj ⟨hj,_⟩=>?_))|skip
 all_goals(repeat'((try(conv=>whnf));first
  |refine ak ?_ ?_|(with_reducible first|refine aN ?_|refine aI ?_|refine aO (λ_=>?_) (λ_=>?_))|refine zad (λ_=>?_) (λ_=>?_)|refine zac ζ ?_|refine aT O1 ?_ ?_|apply zaa))
 all_goals(try apply zab)
 all_goals(try simp only[bW,dI]at *)
 all_goals(try(have qb:QC ((y.split (z.meet y)).getD j O1):=bP qs ω;have hbp:((y.split (z.meet y)).getD j O1)∈(y.split (z.meet y)):=(bP (P:=λp=>p∈(y.split (z.meet y))) (d:=O1) (λp hp=>hp) (show j<_ by omega));have hpc:=L.pcs _ hap _ hbp;have hab:=nG qa qb))
 all_goals(try(exfalso;first|exact ahM hpc.1 (by with_reducible assumption) (by with_reducible assumption)|exact agA hpc.1 (by with_reducible assumption) (by with_reducible assumption);done))
 all_goals first
  |((conv=>whnf);refine Sw.Loop.inv (α:=Nat) (λx=>[(10,.bool (z.com y)),(17,.c (.sl 66 ((y.split (z.meet y)).map λc=>dL c))),(19,.bool (((((z.split (z.meet y)).take i).any λa=>(y.split (z.meet y)).any λb=>a.sam b)||Rt ((z.split (z.meet y)).getD i O1) (y.split (z.meet y)) j) ||((z.split (z.meet y)).getD i O1).sam ((y.split (z.meet y)).getD j O1))),(128,.c (.sl 66 ((z.split (z.meet y)).map λc=>dL c))),(129,.int .i64 ((z.split (z.meet y)).length:Nat)),(130,.int .i64 (i:Nat)),(21,.ptr 21 0),(23,.ptr 23 0),(134,.c (.sl 66 ((y.split (z.meet y)).map λc=>dL c))),(135,.int .i64 ((y.split (z.meet y)).length:Nat)),(136,.int .i64 (j:Nat)),(162,.c (.sl 20 ((((z.split (z.meet y)).getD i O1).meet ((y.split (z.meet y)).getD j O1)).map λp=>aY p))),(163,.int .i64 ((((z.split (z.meet y)).getD i O1).meet ((y.split (z.meet y)).getD j O1)).length:Nat)),(164,.int .i64 (x:Nat))]) (λx=>[(21,.var (dL ((z.split (z.meet y)).getD i O1))),(23,.var (dL ((y.split (z.meet y)).getD j O1)))]) (λx=>x<=(((z.split (z.meet y)).getD i O1).meet ((y.split (z.meet y)).getD j O1)).length/\True) (λx=>(((z.split (z.meet y)).getD i O1).meet ((y.split (z.meet y)).getD j O1)).length-x) 0 ?_ ?_ ?_ (λx ⟨hx,_⟩=>?_))|skip
 all_goals(repeat'((try(conv=>whnf));first
  |refine ak ?_ ?_|(with_reducible first|refine aN ?_|refine aI ?_|refine aO (λ_=>?_) (λ_=>?_))|refine zad (λ_=>?_) (λ_=>?_)|refine aT O0 ?_ ?_|apply zaa))
 all_goals(try apply zab)
 all_goals(try simp only[bW,dI]at *)
 all_goals first|((with_reducible show SubE _ _);repeat'(first|exact trivial|refine And.intro ?_ ?_))|((with_reducible show SubB _ _);repeat'(first|exact trivial|refine And.intro ?_ ?_))|skip
 all_goals first
  |((with_reducible show nH _ _ _ _ _ _);((conv=>whnf);exact⟨x+1,⟨⟨rfl,rfl,rfl,rfl,rfl,rfl,rfl,rfl,rfl,rfl,rfl,rfl,rfl,(show some (AV.int .i64 _)=some (AV.int .i64 _)from by first|exact zaj|exact zak),trivial⟩,⟨rfl,rfl,trivial⟩,⟨ω,trivial⟩,by show(((z.split (z.meet y)).getD i O1).meet ((y.split (z.meet y)).getD j O1)).length-(x+1)<(((z.split (z.meet y)).getD i O1).meet ((y.split (z.meet y)).getD j O1)).length-x;omega⟩⟩))|((with_reducible show nH _ _ _ _ _ _);((conv=>whnf);exact⟨j+1,⟨⟨rfl,rfl,(by refine congrArg (λb=>some (AV.bool b)) ?_;exact aky ω),rfl,rfl,rfl,rfl,rfl,rfl,(show some (AV.int .i64 _)=some (AV.int .i64 _)from by first|exact zaj|exact zak),trivial⟩,⟨rfl,trivial⟩,⟨ω,trivial⟩,by show(y.split (z.meet y)).length-(j+1)<(y.split (z.meet y)).length-j;omega⟩⟩))|((with_reducible show nH _ _ _ _ _ _);((conv=>whnf);exact⟨i+1,⟨⟨rfl,rfl,(by refine congrArg (λb=>some (AV.bool b)) ?_;rw[Me (f:=λa=>(y.split (z.meet y)).any λb=>a.sam b) (d:=O1) (l:=(z.split (z.meet y))) (i:=i) (show i<_ by omega),akP (a:=((z.split (z.meet y)).getD i O1)) (B:=(y.split (z.meet y))) (j:=j) ω]),rfl,rfl,(show some (AV.int .i64 _)=some (AV.int .i64 _)from by first|exact zaj|exact zak),trivial⟩,trivial,⟨ω,trivial⟩,by show(z.split (z.meet y)).length-(i+1)<(z.split (z.meet y)).length-i;omega⟩⟩))|((with_reducible show(_:Nat)<=_/\_);exact⟨Au _,trivial⟩)|((with_reducible show _=_);rfl)|omega|exact⟨qa.1,qb.1⟩|exact⟨qa,qb⟩|exact qb.1|exact⟨qa.1,qb.1.rev⟩|exact congrArg (λb=>some (AV.bool b)) ak6|exact congrArg (λb=>some (AV.bool b)) (al6 (by with_reducible assumption))|exact congrArg (λb=>some (AV.bool b)) (amk (by with_reducible assumption) (by with_reducible assumption))|exact congrArg (λb=>some (AV.bool b)) (amD (by with_reducible assumption) (by with_reducible assumption))|exact⟨bP hab.1 ω,qa.1.p⟩|exact⟨bP hab.1 ω,qa.1.q⟩|exact⟨bP hab.1 ω,qb.1.p⟩|exact⟨bP hab.1 ω,qb.1.q⟩|(exfalso;have h3:=hpc.2 _ (bP (P:=λp=>p∈(((z.split (z.meet y)).getD i O1).meet ((y.split (z.meet y)).getD j O1))) (d:=O0) (λp hp=>hp) (show x<_ by omega));first|exact ac4 h3.1 (by with_reducible assumption) (by with_reducible assumption)|exact ac4 h3.2 (by with_reducible assumption) (by with_reducible assumption))|(refine bE ?_;rw[show(z.split (z.meet y)).take i=(z.split (z.meet y))from MV ω];exact ae8 L.shr)
end Go.Proofs.YtdpkjhnfklkkjaaGreat
namespace Go.Sw
@[reducible] def aeK:TS:=.cons (.int .u8) (.cons (.int .u8) (.cons (.int .i8) (.cons (.int .i8) (.cons (.int .i8) (.cons (.int .i8) (.cons (.int .i8) (.cons (.int .i8) .nil)))))))
@[reducible] def alr:TS:=.cons aeK (.cons aeK (.cons (.int .u8) .nil))
theorem Td{n:Int}(h:(Lit.int .i8 n).wf=true):-128<=n/\n<128:=by
 have h1 : -128<=n/\n<=127:=by
  simp[Lit.wf]at h;exact h
 omega
theorem Q8{cs:List Cell}(h:Fit aeK cs):∃(k u:Nat) (a b c d e f:Int),(k<256/\u<256/\(-128<=a/\a<128)/\(-128<=b/\b<128)/\(-128<=c/\c<128)/\(-128<=d/\d<128)/\(-128<=e/\e<128)/\(-128<=f/\f<128))/\cs=[.v (.int .u8 (k:Nat)),.v (.int .u8 (u:Nat)),.v (.int .i8 a),.v (.int .i8 b),.v (.int .i8 c),.v (.int .i8 d),.v (.int .i8 e),.v (.int .i8 f)]:=by
 obtain⟨_,_,⟨k,wk,rfl⟩,⟨_,_,⟨u,wu,rfl⟩,⟨_,_,⟨a,wa,rfl⟩,⟨_,_,⟨b,wb,rfl⟩,⟨_,_,⟨c,wc,rfl⟩,⟨_,_,⟨d,wd,rfl⟩,⟨_,_,⟨e,we,rfl⟩,⟨_,_,⟨f,wf,rfl⟩,rfl,rfl⟩,rfl⟩,rfl⟩,rfl⟩,rfl⟩,rfl⟩,rfl⟩,rfl⟩:=h;obtain⟨k,rfl,hk⟩:=YQ η wk;obtain⟨u,rfl,hu⟩:=YQ η wu;exact⟨k,u,a,b,c,d,e,f,⟨hk,hu,Td wa,Td wb,Td wc,Td wd,Td we,Td wf⟩,rfl⟩
theorem RI{cs:List Cell}(h:Fit alr cs):∃(k u k2 u2 n:Nat) (a b c d e f a2 b2 c2 d2 e2 f2:Int),((k<256/\u<256/\(-128<=a/\a<128)/\(-128<=b/\b<128)/\(-128<=c/\c<128)/\(-128<=d/\d<128)/\(-128<=e/\e<128)/\(-128<=f/\f<128))/\(k2<256/\u2<256/\(-128<=a2/\a2<128)/\(-128<=b2/\b2<128)/\(-128<=c2/\c2<128)/\(-128<=d2/\d2<128)/\(-128<=e2/\e2<128)/\(-128<=f2/\f2<128))/\n<256)/\cs=[.v (.int .u8 (k:Nat)),.v (.int .u8 (u:Nat)),.v (.int .i8 a),.v (.int .i8 b),.v (.int .i8 c),.v (.int .i8 d),.v (.int .i8 e),.v (.int .i8 f),.v (.int .u8 (k2:Nat)),.v (.int .u8 (u2:Nat)),.v (.int .i8 a2),.v (.int .i8 b2),.v (.int .i8 c2),.v (.int .i8 d2),.v (.int .i8 e2),.v (.int .i8 f2),.v (.int .u8 (n:Nat))]:=by
 obtain⟨_,_,h1,⟨_,_,h2,⟨_,_,⟨n,wn,rfl⟩,rfl,rfl⟩,rfl⟩,rfl⟩:=h;obtain⟨k,u,a,b,c,d,e,f,p1,rfl⟩:=Q8 h1;obtain⟨k2,u2,a2,b2,c2,d2,e2,f2,p2,rfl⟩:=Q8 h2;obtain⟨n,rfl,hn⟩:=YQ η wn;exact⟨k,u,k2,u2,n,a,b,c,d,e,f,a2,b2,c2,d2,e2,f2,⟨p1,p2,hn⟩,rfl⟩
end Go.Sw
