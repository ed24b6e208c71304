/-
  Rules of the abstract run, plain laws, and what functions answer, for the law TopMeetings.
  Conditions: none.
-/
import Derived.Test.YtdpkjhnfklkkjaaGreatM14
set_option linter.all false
namespace Go.Proofs.YtdpkjhnfklkkjaaGreat
open Go Go.RowKit Go.Sw Go.Proofs.Tryz
set_option maxRecDepth 100000
set_option maxHeartbeats 16000000
set_option synthInstance.maxSize 4000
set_option synthInstance.maxHeartbeats 400000
@[reducible] def xJ(A B C:Rat)(p q:Pnt):List Cell:=[.v (.bool false),zs A.num,zl A.num,zs A.den,zl A.den,zs B.num,zl B.num,zs B.den,zl B.den,zs C.num,zl C.num,zs C.den,zl C.den,.v (.bool false),.sl 1 [],.v (.bool false),.sl 1 [],.v (.bool false),.sl 1 [],.v (.bool false),.sl 1 [],.v (.bool false),.sl 1 [],.v (.bool false),.sl 1 [],.v (.bool false),zs p.ax.num,zl p.ax.num,zs p.ax.den,zl p.ax.den,zs p.bx.num,zl p.bx.num,zs p.bx.den,zl p.bx.den,zs p.ay.num,zl p.ay.num,zs p.ay.den,zl p.ay.den,zs p.bb.num,zl p.bb.num,zs p.bb.den,zl p.bb.den,zs p.c.num,zl p.c.num,zs p.c.den,zl p.c.den,zs q.ax.num,zl q.ax.num,zs q.ax.den,zl q.ax.den,zs q.bx.num,zl q.bx.num,zs q.bx.den,zl q.bx.den,zs q.ay.num,zl q.ay.num,zs q.ay.den,zl q.ay.den,zs q.bb.num,zl q.bb.num,zs q.bb.den,zl q.bb.den,zs q.c.num,zl q.c.num,zs q.c.den,zl q.c.den]
@[reducible] def qM(X Y Q:Rat)(k:Bool)(p q:Pnt):List Cell:=[.v (.bool true),.v (.bool false),.sl 1 [],.v (.bool false),.sl 1 [],.v (.bool false),.sl 1 [],.v (.bool false),.sl 1 [],.v (.bool false),.sl 1 [],.v (.bool false),.sl 1 [],zs X.num,zl X.num,zs X.den,zl X.den,zs Y.num,zl Y.num,zs Y.den,zl Y.den,zs Q.num,zl Q.num,zs Q.den,zl Q.den,.v (.bool k),zs p.ax.num,zl p.ax.num,zs p.ax.den,zl p.ax.den,zs p.bx.num,zl p.bx.num,zs p.bx.den,zl p.bx.den,zs p.ay.num,zl p.ay.num,zs p.ay.den,zl p.ay.den,zs p.bb.num,zl p.bb.num,zs p.bb.den,zl p.bb.den,zs p.c.num,zl p.c.num,zs p.c.den,zl p.c.den,zs q.ax.num,zl q.ax.num,zs q.ax.den,zl q.ax.den,zs q.bx.num,zl q.bx.num,zs q.bx.den,zl q.bx.den,zs q.ay.num,zl q.ay.num,zs q.ay.den,zl q.ay.den,zs q.bb.num,zl q.bb.num,zs q.bb.den,zl q.bb.den,zs q.c.num,zl q.c.num,zs q.c.den,zl q.c.den]
def _root_.Go.Sw.Sprt.lb:Sprt->Nat->Bool
 |.ln A B C,i=>[decide (A.num<0),decide ((A.den:Int)<0),decide (B.num<0),decide ((B.den:Int)<0),decide (C.num<0),decide ((C.den:Int)<0)].getD i false
 |.ar _ _ _ _,_=>false
def _root_.Go.Sw.Sprt.ll:Sprt->Nat->List Nat
 |.ln A B C,i=>[lim A.num.natAbs,lim (A.den:Int).natAbs,lim B.num.natAbs,lim (B.den:Int).natAbs,lim C.num.natAbs,lim (C.den:Int).natAbs].getD i []
 |.ar _ _ _ _,_=>[]
def _root_.Go.Sw.Sprt.cb:Sprt->Nat->Bool
 |.ln _ _ _,_=>false
 |.ar X Y Q _,i=>[decide (X.num<0),decide ((X.den:Int)<0),decide (Y.num<0),decide ((Y.den:Int)<0),decide (Q.num<0),decide ((Q.den:Int)<0)].getD i false
def _root_.Go.Sw.Sprt.cl:Sprt->Nat->List Nat
 |.ln _ _ _,_=>[]
 |.ar X Y Q _,i=>[lim X.num.natAbs,lim (X.den:Int).natAbs,lim Y.num.natAbs,lim (Y.den:Int).natAbs,lim Q.num.natAbs,lim (Q.den:Int).natAbs].getD i []
@[reducible] def dL(c:Cv):List Cell:=[.v (.bool c.s.arc),.v (.bool (c.s.lb 0)),dB (c.s.ll 0),.v (.bool (c.s.lb 1)),dB (c.s.ll 1),.v (.bool (c.s.lb 2)),dB (c.s.ll 2),.v (.bool (c.s.lb 3)),dB (c.s.ll 3),.v (.bool (c.s.lb 4)),dB (c.s.ll 4),.v (.bool (c.s.lb 5)),dB (c.s.ll 5),.v (.bool (c.s.cb 0)),dB (c.s.cl 0),.v (.bool (c.s.cb 1)),dB (c.s.cl 1),.v (.bool (c.s.cb 2)),dB (c.s.cl 2),.v (.bool (c.s.cb 3)),dB (c.s.cl 3),.v (.bool (c.s.cb 4)),dB (c.s.cl 4),.v (.bool (c.s.cb 5)),dB (c.s.cl 5),.v (.bool c.s.cw),zs c.p.ax.num,zl c.p.ax.num,zs c.p.ax.den,zl c.p.ax.den,zs c.p.bx.num,zl c.p.bx.num,zs c.p.bx.den,zl c.p.bx.den,zs c.p.ay.num,zl c.p.ay.num,zs c.p.ay.den,zl c.p.ay.den,zs c.p.bb.num,zl c.p.bb.num,zs c.p.bb.den,zl c.p.bb.den,zs c.p.c.num,zl c.p.c.num,zs c.p.c.den,zl c.p.c.den,zs c.q.ax.num,zl c.q.ax.num,zs c.q.ax.den,zl c.q.ax.den,zs c.q.bx.num,zl c.q.bx.num,zs c.q.bx.den,zl c.q.bx.den,zs c.q.ay.num,zl c.q.ay.num,zs c.q.ay.den,zl c.q.ay.den,zs c.q.bb.num,zl c.q.bb.num,zs c.q.bb.den,zl c.q.bb.den,zs c.q.c.num,zl c.q.c.num,zs c.q.c.den,zl c.q.c.den]
attribute [instance 3000] ahY
instance ab5(A B C:Rat)(a b:Pnt):DenI prog 12 [.agg (xJ A B C a b)] (PC (⟨.ln A B C,a,b⟩:Cv)) (.agg (xJ A B C b a)):=⟨λhp=>by
 have Hc:=hp;have ha:=Hc.p;have hb:=Hc.q;have:RzB a.ax 5000:=⟨ha.ax⟩
 have:RzB a.bx 250:=⟨ha.bx⟩
 have:RzB a.ay 5000:=⟨ha.ay⟩
 have:RzB a.bb 250:=⟨ha.bb⟩
 have:RzB a.c 5000:=⟨ha.c⟩
 have:RzB b.ax 5000:=⟨hb.ax⟩
 have:RzB b.bx 250:=⟨hb.bx⟩
 have:RzB b.ay 5000:=⟨hb.ay⟩
 have:RzB b.bb 250:=⟨hb.bb⟩
 have:RzB b.c 5000:=⟨hb.c⟩
 have:RzB A 40:=⟨Hc.ln.1⟩
 have:RzB B 40:=⟨Hc.ln.2.1⟩
 have:RzB C 100:=⟨Hc.ln.2.2⟩
 all_goals refine aS func12 rfl ?_
 all_goals(repeat'((try(conv=>whnf));first
  |(with_reducible refine aI ?_)|apply zaa))
 all_goals(try simp only[bn]at *)
 all_goals first
  |rfl⟩
instance abz(X Y Q:Rat)(a b:Pnt):DenI prog 12 [.agg (qM X Y Q true a b)] (PC (⟨.ar X Y Q true,a,b⟩:Cv)) (.agg (qM X Y Q false b a)):=⟨λhp=>by
 have Hc:=hp;have ha:=Hc.p;have hb:=Hc.q;have:RzB a.ax 5000:=⟨ha.ax⟩
 have:RzB a.bx 250:=⟨ha.bx⟩
 have:RzB a.ay 5000:=⟨ha.ay⟩
 have:RzB a.bb 250:=⟨ha.bb⟩
 have:RzB a.c 5000:=⟨ha.c⟩
 have:RzB b.ax 5000:=⟨hb.ax⟩
 have:RzB b.bx 250:=⟨hb.bx⟩
 have:RzB b.ay 5000:=⟨hb.ay⟩
 have:RzB b.bb 250:=⟨hb.bb⟩
 have:RzB b.c 5000:=⟨hb.c⟩
 have:RzB X 100:=⟨Hc.ar.1⟩
 have:RzB Y 100:=⟨Hc.ar.2.1⟩
 have:RzB Q 400:=⟨Hc.ar.2.2⟩
 all_goals refine aS func12 rfl ?_
 all_goals(repeat'((try(conv=>whnf));first
  |(with_reducible refine aN ?_)|apply zaa))
 all_goals(try simp only[bn]at *)
 all_goals first
  |rfl⟩
instance aaq(X Y Q:Rat)(a b:Pnt):DenI prog 12 [.agg (qM X Y Q false a b)] (PC (⟨.ar X Y Q false,a,b⟩:Cv)) (.agg (qM X Y Q true b a)):=⟨λhp=>by
 have Hc:=hp;have ha:=Hc.p;have hb:=Hc.q;have:RzB a.ax 5000:=⟨ha.ax⟩
 have:RzB a.bx 250:=⟨ha.bx⟩
 have:RzB a.ay 5000:=⟨ha.ay⟩
 have:RzB a.bb 250:=⟨ha.bb⟩
 have:RzB a.c 5000:=⟨ha.c⟩
 have:RzB b.ax 5000:=⟨hb.ax⟩
 have:RzB b.bx 250:=⟨hb.bx⟩
 have:RzB b.ay 5000:=⟨hb.ay⟩
 have:RzB b.bb 250:=⟨hb.bb⟩
 have:RzB b.c 5000:=⟨hb.c⟩
 have:RzB X 100:=⟨Hc.ar.1⟩
 have:RzB Y 100:=⟨Hc.ar.2.1⟩
 have:RzB Q 400:=⟨Hc.ar.2.2⟩
 all_goals refine aS func12 rfl ?_
 all_goals(repeat'((try(conv=>whnf));first
  |(with_reducible refine aN ?_)|apply zaa))
 all_goals(try simp only[bn]at *)
 all_goals first
  |rfl⟩
instance amO(c:Cv):DenI prog 12 [.agg (dL c)] (PC c) (.agg (dL c.rev)):=⟨λhp=>by
 rcases c with⟨⟨_,_,_⟩|⟨_,_,_,_|_⟩,_,_⟩
 all_goals first
 |exact(ab5 ..).den hp|exact(abz ..).den hp|exact(aaq ..).den hp⟩
instance aes(A B C:Rat)(a b:Pnt):DenI prog 74 [.agg (xJ A B C a b)] (PC (⟨.ln A B C,a,b⟩:Cv)) (.agg (xJ A B C a b)):=⟨λhp=>by
 have Hc:=hp;have ha:=Hc.p;have hb:=Hc.q;have:RzB a.ax 5000:=⟨ha.ax⟩
 have:RzB a.bx 250:=⟨ha.bx⟩
 have:RzB a.ay 5000:=⟨ha.ay⟩
 have:RzB a.bb 250:=⟨ha.bb⟩
 have:RzB a.c 5000:=⟨ha.c⟩
 have:RzB b.ax 5000:=⟨hb.ax⟩
 have:RzB b.bx 250:=⟨hb.bx⟩
 have:RzB b.ay 5000:=⟨hb.ay⟩
 have:RzB b.bb 250:=⟨hb.bb⟩
 have:RzB b.c 5000:=⟨hb.c⟩
 have:RzB A 40:=⟨Hc.ln.1⟩
 have:RzB B 40:=⟨Hc.ln.2.1⟩
 have:RzB C 100:=⟨Hc.ln.2.2⟩
 all_goals refine aS func74 rfl ?_
 all_goals(repeat'((try(conv=>whnf));first
  |(with_reducible refine aI ?_)|apply zaa))
 all_goals(try simp only[bn]at *)
 all_goals first
  |rfl⟩
instance aff(X Y Q:Rat)(a b:Pnt):DenI prog 74 [.agg (qM X Y Q true a b)] (PC (⟨.ar X Y Q true,a,b⟩:Cv)) (.agg (qM X Y Q false b a)):=⟨λhp=>by
 have Hc:=hp;have ha:=Hc.p;have hb:=Hc.q;have:RzB a.ax 5000:=⟨ha.ax⟩
 have:RzB a.bx 250:=⟨ha.bx⟩
 have:RzB a.ay 5000:=⟨ha.ay⟩
 have:RzB a.bb 250:=⟨ha.bb⟩
 have:RzB a.c 5000:=⟨ha.c⟩
 have:RzB b.ax 5000:=⟨hb.ax⟩
 have:RzB b.bx 250:=⟨hb.bx⟩
 have:RzB b.ay 5000:=⟨hb.ay⟩
 have:RzB b.bb 250:=⟨hb.bb⟩
 have:RzB b.c 5000:=⟨hb.c⟩
 have:RzB X 100:=⟨Hc.ar.1⟩
 have:RzB Y 100:=⟨Hc.ar.2.1⟩
 have:RzB Q 400:=⟨Hc.ar.2.2⟩
 all_goals refine aS func74 rfl ?_
 all_goals(repeat'((try(conv=>whnf));first
  |refine ak ?_ ?_|(with_reducible refine aN ?_)|apply zaa))
 all_goals(try apply zab)
 all_goals(try simp only[bn]at *)
 all_goals first
  |rfl|((repeat' apply And.intro)<;>with_reducible assumption)⟩
instance aeE(X Y Q:Rat)(a b:Pnt):DenI prog 74 [.agg (qM X Y Q false a b)] (PC (⟨.ar X Y Q false,a,b⟩:Cv)) (.agg (qM X Y Q false a b)):=⟨λhp=>by
 have Hc:=hp;have ha:=Hc.p;have hb:=Hc.q;have:RzB a.ax 5000:=⟨ha.ax⟩
 have:RzB a.bx 250:=⟨ha.bx⟩
 have:RzB a.ay 5000:=⟨ha.ay⟩
 have:RzB a.bb 250:=⟨ha.bb⟩
 have:RzB a.c 5000:=⟨ha.c⟩
 have:RzB b.ax 5000:=⟨hb.ax⟩
 have:RzB b.bx 250:=⟨hb.bx⟩
 have:RzB b.ay 5000:=⟨hb.ay⟩
 have:RzB b.bb 250:=⟨hb.bb⟩
 have:RzB b.c 5000:=⟨hb.c⟩
 have:RzB X 100:=⟨Hc.ar.1⟩
 have:RzB Y 100:=⟨Hc.ar.2.1⟩
 have:RzB Q 400:=⟨Hc.ar.2.2⟩
 all_goals refine aS func74 rfl ?_
 all_goals(repeat'((try(conv=>whnf));first
  |(with_reducible refine aI ?_)|apply zaa))
 all_goals(try simp only[bn]at *)
 all_goals first
  |rfl⟩
instance aod(c:Cv):DenI prog 74 [.agg (dL c)] (PC c) (.agg (dL c.ccw)):=⟨λhp=>by
 rcases c with⟨⟨_,_,_⟩|⟨_,_,_,_|_⟩,_,_⟩
 all_goals first
 |exact(aes ..).den hp|exact(aff ..).den hp|exact(aeE ..).den hp⟩
instance abv(A B C:Rat)(a b:Pnt)(p:Pnt):DenI prog 36 [.agg (xJ A B C a b),.agg (aY p)] (PC (⟨.ln A B C,a,b⟩:Cv)/\PB p) (.bool (decide ((⟨.ln A B C,a,b⟩:Cv).s.on p=0))):=⟨λhp=>by
 obtain⟨Hc,hp⟩:=hp;have ha:=Hc.p;have hb:=Hc.q;have:RzB a.ax 5000:=⟨ha.ax⟩
 have:RzB a.bx 250:=⟨ha.bx⟩
 have:RzB a.ay 5000:=⟨ha.ay⟩
 have:RzB a.bb 250:=⟨ha.bb⟩
 have:RzB a.c 5000:=⟨ha.c⟩
 have:RzB b.ax 5000:=⟨hb.ax⟩
 have:RzB b.bx 250:=⟨hb.bx⟩
 have:RzB b.ay 5000:=⟨hb.ay⟩
 have:RzB b.bb 250:=⟨hb.bb⟩
 have:RzB b.c 5000:=⟨hb.c⟩
 have:RzB A 40:=⟨Hc.ln.1⟩
 have:RzB B 40:=⟨Hc.ln.2.1⟩
 have:RzB C 100:=⟨Hc.ln.2.2⟩
 have:RzB p.ax 5000:=⟨hp.ax⟩
 have:RzB p.bx 250:=⟨hp.bx⟩
 have:RzB p.ay 5000:=⟨hp.ay⟩
 have:RzB p.bb 250:=⟨hp.bb⟩
 have:RzB p.c 5000:=⟨hp.c⟩
 all_goals refine aS func36 rfl ?_
 all_goals(repeat'((try(conv=>whnf));first
  |refine ak ?_ ?_|(with_reducible refine aI ?_)|apply zaa))
 all_goals(try apply zab)
 all_goals(try simp only[bn]at *)
 all_goals first
  |rfl|exact zaf⟩
instance abB(X Y Q:Rat)(k:Bool)(a b:Pnt)(p:Pnt):DenI prog 36 [.agg (qM X Y Q k a b),.agg (aY p)] (PC (⟨.ar X Y Q k,a,b⟩:Cv)/\PB p) (.bool (decide ((⟨.ar X Y Q k,a,b⟩:Cv).s.on p=0))):=⟨λhp=>by
 obtain⟨Hc,hp⟩:=hp;have ha:=Hc.p;have hb:=Hc.q;have:RzB a.ax 5000:=⟨ha.ax⟩
 have:RzB a.bx 250:=⟨ha.bx⟩
 have:RzB a.ay 5000:=⟨ha.ay⟩
 have:RzB a.bb 250:=⟨ha.bb⟩
 have:RzB a.c 5000:=⟨ha.c⟩
 have:RzB b.ax 5000:=⟨hb.ax⟩
 have:RzB b.bx 250:=⟨hb.bx⟩
 have:RzB b.ay 5000:=⟨hb.ay⟩
 have:RzB b.bb 250:=⟨hb.bb⟩
 have:RzB b.c 5000:=⟨hb.c⟩
 have:RzB X 100:=⟨Hc.ar.1⟩
 have:RzB Y 100:=⟨Hc.ar.2.1⟩
 have:RzB Q 400:=⟨Hc.ar.2.2⟩
 have:RzB p.ax 5000:=⟨hp.ax⟩
 have:RzB p.bx 250:=⟨hp.bx⟩
 have:RzB p.ay 5000:=⟨hp.ay⟩
 have:RzB p.bb 250:=⟨hp.bb⟩
 have:RzB p.c 5000:=⟨hp.c⟩
 all_goals refine aS func36 rfl ?_
 all_goals(repeat'((try(conv=>whnf));first
  |refine ak ?_ ?_|(with_reducible refine aN ?_)|apply zaa))
 all_goals(try apply zab)
 all_goals(try simp only[bn]at *)
 all_goals first
  |(refine bE ?_;rw[decide_eq_decide,Int.neg_eq_zero];exact Iff.rfl)|exact zaf⟩
instance abI(A B C:Rat)(a b:Pnt)(p:Pnt):DenI prog 29 [.agg (xJ A B C a b),.agg (aY p)] (PC (⟨.ln A B C,a,b⟩:Cv)/\PB p) (.bool ((⟨.ln A B C,a,b⟩:Cv).rc p)):=⟨λhp=>by
 obtain⟨Hc,hp⟩:=hp;have ha:=Hc.p;have hb:=Hc.q;have:RzB a.ax 5000:=⟨ha.ax⟩
 have:RzB a.bx 250:=⟨ha.bx⟩
 have:RzB a.ay 5000:=⟨ha.ay⟩
 have:RzB a.bb 250:=⟨ha.bb⟩
 have:RzB a.c 5000:=⟨ha.c⟩
 have:RzB b.ax 5000:=⟨hb.ax⟩
 have:RzB b.bx 250:=⟨hb.bx⟩
 have:RzB b.ay 5000:=⟨hb.ay⟩
 have:RzB b.bb 250:=⟨hb.bb⟩
 have:RzB b.c 5000:=⟨hb.c⟩
 have:RzB A 40:=⟨Hc.ln.1⟩
 have:RzB B 40:=⟨Hc.ln.2.1⟩
 have:RzB C 100:=⟨Hc.ln.2.2⟩
 have:RzB p.ax 5000:=⟨hp.ax⟩
 have:RzB p.bx 250:=⟨hp.bx⟩
 have:RzB p.ay 5000:=⟨hp.ay⟩
 have:RzB p.bb 250:=⟨hp.bb⟩
 have:RzB p.c 5000:=⟨hp.c⟩
 all_goals refine aS func29 rfl ?_
 all_goals(repeat'((try(conv=>whnf));first
  |refine ak ?_ ?_|(with_reducible first|refine aN ?_|refine aI ?_|refine aO (λ_=>?_) (λ_=>?_))|refine zad (λ_=>?_) (λ_=>?_)|refine zac ζ ?_|apply zaa))
 all_goals(try apply zab)
 all_goals(try simp only[bn]at *)
 all_goals first
  |(refine bE ?_;show _=(decide (kH a p=0)||decide (kH p b=0)||decide (kH a p=kH p b));simp[*];done)|((repeat' apply And.intro)<;>with_reducible assumption)|(exfalso;simp_all;done)⟩
instance aa2(X Y Q:Rat)(a b:Pnt)(p:Pnt):DenI prog 29 [.agg (qM X Y Q true a b),.agg (aY p)] (PC (⟨.ar X Y Q true,a,b⟩:Cv)/\PB p) (.bool ((⟨.ar X Y Q true,a,b⟩:Cv).rc p)):=⟨λhp=>by
 obtain⟨Hc,hp⟩:=hp;have ha:=Hc.p;have hb:=Hc.q;have:RzB a.ax 5000:=⟨ha.ax⟩
 have:RzB a.bx 250:=⟨ha.bx⟩
 have:RzB a.ay 5000:=⟨ha.ay⟩
 have:RzB a.bb 250:=⟨ha.bb⟩
 have:RzB a.c 5000:=⟨ha.c⟩
 have:RzB b.ax 5000:=⟨hb.ax⟩
 have:RzB b.bx 250:=⟨hb.bx⟩
 have:RzB b.ay 5000:=⟨hb.ay⟩
 have:RzB b.bb 250:=⟨hb.bb⟩
 have:RzB b.c 5000:=⟨hb.c⟩
 have:RzB X 100:=⟨Hc.ar.1⟩
 have:RzB Y 100:=⟨Hc.ar.2.1⟩
 have:RzB Q 400:=⟨Hc.ar.2.2⟩
 have:RzB p.ax 5000:=⟨hp.ax⟩
 have:RzB p.bx 250:=⟨hp.bx⟩
 have:RzB p.ay 5000:=⟨hp.ay⟩
 have:RzB p.bb 250:=⟨hp.bb⟩
 have:RzB p.c 5000:=⟨hp.c⟩
 all_goals refine aS func29 rfl ?_
 all_goals(repeat'((try(conv=>whnf));first
  |refine ak ?_ ?_|(with_reducible first|refine aN ?_|refine aI ?_|refine aO (λ_=>?_) (λ_=>?_))|refine zad (λ_=>?_) (λ_=>?_)|refine zac ζ ?_|apply zaa))
 all_goals(try apply zab)
 all_goals(try simp only[bn]at *)
 all_goals first
  |rfl|((repeat' apply And.intro)<;>with_reducible assumption)|exact zaf|(exfalso;simp_all;done)⟩
instance aaS(X Y Q:Rat)(a b:Pnt)(p:Pnt):DenI prog 29 [.agg (qM X Y Q false a b),.agg (aY p)] (PC (⟨.ar X Y Q false,a,b⟩:Cv)/\PB p) (.bool ((⟨.ar X Y Q false,a,b⟩:Cv).rc p)):=⟨λhp=>by
 obtain⟨Hc,hp⟩:=hp;have ha:=Hc.p;have hb:=Hc.q;have:RzB a.ax 5000:=⟨ha.ax⟩
 have:RzB a.bx 250:=⟨ha.bx⟩
 have:RzB a.ay 5000:=⟨ha.ay⟩
 have:RzB a.bb 250:=⟨ha.bb⟩
 have:RzB a.c 5000:=⟨ha.c⟩
 have:RzB b.ax 5000:=⟨hb.ax⟩
 have:RzB b.bx 250:=⟨hb.bx⟩
 have:RzB b.ay 5000:=⟨hb.ay⟩
 have:RzB b.bb 250:=⟨hb.bb⟩
 have:RzB b.c 5000:=⟨hb.c⟩
 have:RzB X 100:=⟨Hc.ar.1⟩
 have:RzB Y 100:=⟨Hc.ar.2.1⟩
 have:RzB Q 400:=⟨Hc.ar.2.2⟩
 have:RzB p.ax 5000:=⟨hp.ax⟩
 have:RzB p.bx 250:=⟨hp.bx⟩
 have:RzB p.ay 5000:=⟨hp.ay⟩
 have:RzB p.bb 250:=⟨hp.bb⟩
 have:RzB p.c 5000:=⟨hp.c⟩
 all_goals refine aS func29 rfl ?_
 all_goals(repeat'((try(conv=>whnf));first
  |refine ak ?_ ?_|(with_reducible first|refine aN ?_|refine aI ?_|refine aO (λ_=>?_) (λ_=>?_))|refine zad (λ_=>?_) (λ_=>?_)|refine zac ζ ?_|apply zaa))
 all_goals(try apply zab)
 all_goals(try simp only[bn]at *)
 all_goals first
  |rfl|((repeat' apply And.intro)<;>with_reducible assumption)|exact zaf|(exfalso;simp_all;done)⟩
instance anR(c:Cv)(p:Pnt):DenI prog 36 [.agg (dL c),.agg (aY p)] (PC c/\PB p) (.bool (decide (c.s.on p=0))):=⟨λhp=>by
 rcases c with⟨⟨_,_,_⟩|⟨_,_,_,_|_⟩,_,_⟩
 all_goals first
 |exact(abv ..).den hp|exact(abB ..).den hp⟩
instance anx(c:Cv)(p:Pnt):DenI prog 29 [.agg (dL c),.agg (aY p)] (PC c/\PB p) (.bool (c.rc p)):=⟨λhp=>by
 rcases c with⟨⟨_,_,_⟩|⟨_,_,_,_|_⟩,_,_⟩
 all_goals first
 |exact(abI ..).den hp|exact(aa2 ..).den hp|exact(aaS ..).den hp⟩
instance afl(A B C:Rat)(a b:Pnt)(p q:Pnt):DenI prog 78 [.agg (xJ A B C a b),.agg (aY p),.agg (aY q)] (PC (⟨.ln A B C,a,b⟩:Cv)/\PB p/\PB q) (.int .i64 ((⟨.ln A B C,a,b⟩:Cv).odP p q)):=⟨λhp=>by
 obtain⟨Hc,hp,hq⟩:=hp;have ha:=Hc.p;have hb:=Hc.q;have:RzB a.ax 5000:=⟨ha.ax⟩
 have:RzB a.bx 250:=⟨ha.bx⟩
 have:RzB a.ay 5000:=⟨ha.ay⟩
 have:RzB a.bb 250:=⟨ha.bb⟩
 have:RzB a.c 5000:=⟨ha.c⟩
 have:RzB b.ax 5000:=⟨hb.ax⟩
 have:RzB b.bx 250:=⟨hb.bx⟩
 have:RzB b.ay 5000:=⟨hb.ay⟩
 have:RzB b.bb 250:=⟨hb.bb⟩
 have:RzB b.c 5000:=⟨hb.c⟩
 have:RzB A 40:=⟨Hc.ln.1⟩
 have:RzB B 40:=⟨Hc.ln.2.1⟩
 have:RzB C 100:=⟨Hc.ln.2.2⟩
 have:RzB p.ax 5000:=⟨hp.ax⟩
 have:RzB p.bx 250:=⟨hp.bx⟩
 have:RzB p.ay 5000:=⟨hp.ay⟩
 have:RzB p.bb 250:=⟨hp.bb⟩
 have:RzB p.c 5000:=⟨hp.c⟩
 have:RzB q.ax 5000:=⟨hq.ax⟩
 have:RzB q.bx 250:=⟨hq.bx⟩
 have:RzB q.ay 5000:=⟨hq.ay⟩
 have:RzB q.bb 250:=⟨hq.bb⟩
 have:RzB q.c 5000:=⟨hq.c⟩
 all_goals refine aS func78 rfl ?_
 all_goals(repeat'((try(conv=>whnf));first
  |refine ak ?_ ?_|(with_reducible refine aI ?_)|refine zad (λ_=>?_) (λ_=>?_)|refine zac ζ ?_|apply zaa))
 all_goals(try apply zab)
 all_goals(try simp only[bn]at *)
 all_goals first
  |exact iE (Np (FM hp hq) (FM hb ha))|((repeat' apply And.intro)<;>with_reducible assumption)|(exfalso;simp_all;done)⟩
instance aeg(X Y Q:Rat)(a b:Pnt)(p q:Pnt):DenI prog 78 [.agg (qM X Y Q true a b),.agg (aY p),.agg (aY q)] (PC (⟨.ar X Y Q true,a,b⟩:Cv)/\PB p/\PB q) (.int .i64 ((⟨.ar X Y Q true,a,b⟩:Cv).odP p q)):=⟨λhp=>by
 obtain⟨Hc,hp,hq⟩:=hp;have ha:=Hc.p;have hb:=Hc.q;have:RzB a.ax 5000:=⟨ha.ax⟩
 have:RzB a.bx 250:=⟨ha.bx⟩
 have:RzB a.ay 5000:=⟨ha.ay⟩
 have:RzB a.bb 250:=⟨ha.bb⟩
 have:RzB a.c 5000:=⟨ha.c⟩
 have:RzB b.ax 5000:=⟨hb.ax⟩
 have:RzB b.bx 250:=⟨hb.bx⟩
 have:RzB b.ay 5000:=⟨hb.ay⟩
 have:RzB b.bb 250:=⟨hb.bb⟩
 have:RzB b.c 5000:=⟨hb.c⟩
 have:RzB X 100:=⟨Hc.ar.1⟩
 have:RzB Y 100:=⟨Hc.ar.2.1⟩
 have:RzB Q 400:=⟨Hc.ar.2.2⟩
 have:RzB p.ax 5000:=⟨hp.ax⟩
 have:RzB p.bx 250:=⟨hp.bx⟩
 have:RzB p.ay 5000:=⟨hp.ay⟩
 have:RzB p.bb 250:=⟨hp.bb⟩
 have:RzB p.c 5000:=⟨hp.c⟩
 have:RzB q.ax 5000:=⟨hq.ax⟩
 have:RzB q.bx 250:=⟨hq.bx⟩
 have:RzB q.ay 5000:=⟨hq.ay⟩
 have:RzB q.bb 250:=⟨hq.bb⟩
 have:RzB q.c 5000:=⟨hq.c⟩
 all_goals refine aS func78 rfl ?_
 all_goals(repeat'((try(conv=>whnf));first
  |refine ak ?_ ?_|(with_reducible refine aN ?_)|refine zad (λ_=>?_) (λ_=>?_)|refine zac ζ ?_|apply zaa))
 all_goals(try apply zab)
 all_goals(try simp only[bn]at *)
 all_goals first
  |exact zau|((repeat' apply And.intro)<;>with_reducible assumption)|exact zaf|(exfalso;simp_all;done)⟩
instance adH(X Y Q:Rat)(a b:Pnt)(p q:Pnt):DenI prog 78 [.agg (qM X Y Q false a b),.agg (aY p),.agg (aY q)] (PC (⟨.ar X Y Q false,a,b⟩:Cv)/\PB p/\PB q) (.int .i64 ((⟨.ar X Y Q false,a,b⟩:Cv).odP p q)):=⟨λhp=>by
 obtain⟨Hc,hp,hq⟩:=hp;have ha:=Hc.p;have hb:=Hc.q;have:RzB a.ax 5000:=⟨ha.ax⟩
 have:RzB a.bx 250:=⟨ha.bx⟩
 have:RzB a.ay 5000:=⟨ha.ay⟩
 have:RzB a.bb 250:=⟨ha.bb⟩
 have:RzB a.c 5000:=⟨ha.c⟩
 have:RzB b.ax 5000:=⟨hb.ax⟩
 have:RzB b.bx 250:=⟨hb.bx⟩
 have:RzB b.ay 5000:=⟨hb.ay⟩
 have:RzB b.bb 250:=⟨hb.bb⟩
 have:RzB b.c 5000:=⟨hb.c⟩
 have:RzB X 100:=⟨Hc.ar.1⟩
 have:RzB Y 100:=⟨Hc.ar.2.1⟩
 have:RzB Q 400:=⟨Hc.ar.2.2⟩
 have:RzB p.ax 5000:=⟨hp.ax⟩
 have:RzB p.bx 250:=⟨hp.bx⟩
 have:RzB p.ay 5000:=⟨hp.ay⟩
 have:RzB p.bb 250:=⟨hp.bb⟩
 have:RzB p.c 5000:=⟨hp.c⟩
 have:RzB q.ax 5000:=⟨hq.ax⟩
 have:RzB q.bx 250:=⟨hq.bx⟩
 have:RzB q.ay 5000:=⟨hq.ay⟩
 have:RzB q.bb 250:=⟨hq.bb⟩
 have:RzB q.c 5000:=⟨hq.c⟩
 all_goals refine aS func78 rfl ?_
 all_goals(repeat'((try(conv=>whnf));first
  |refine ak ?_ ?_|(with_reducible refine aI ?_)|refine zad (λ_=>?_) (λ_=>?_)|refine zac ζ ?_|apply zaa))
 all_goals(try apply zab)
 all_goals(try simp only[bn]at *)
 all_goals first
  |rfl|((repeat' apply And.intro)<;>with_reducible assumption)|exact zaf|(exfalso;simp_all;done)⟩
instance aoe(c:Cv)(p q:Pnt):DenI prog 78 [.agg (dL c),.agg (aY p),.agg (aY q)] (PC c/\PB p/\PB q) (.int .i64 (c.odP p q)):=⟨λhp=>by
 rcases c with⟨⟨_,_,_⟩|⟨_,_,_,_|_⟩,_,_⟩
 all_goals first
 |exact(afl ..).den hp|exact(aeg ..).den hp|exact(adH ..).den hp⟩
instance abT(A B C:Rat)(a b:Pnt)(D E F:Rat)(e f:Pnt):DenI prog 24 [.agg (xJ A B C a b),.agg (xJ D E F e f)] (PC (⟨.ln A B C,a,b⟩:Cv)/\PC (⟨.ln D E F,e,f⟩:Cv)) (.bool ((⟨.ln A B C,a,b⟩:Cv).s.same (⟨.ln D E F,e,f⟩:Cv).s)):=⟨λhp=>by
 obtain⟨Hc,Hd⟩:=hp;have ha:=Hc.p;have hb:=Hc.q;have:RzB a.ax 5000:=⟨ha.ax⟩
 have:RzB a.bx 250:=⟨ha.bx⟩
 have:RzB a.ay 5000:=⟨ha.ay⟩
 have:RzB a.bb 250:=⟨ha.bb⟩
 have:RzB a.c 5000:=⟨ha.c⟩
 have:RzB b.ax 5000:=⟨hb.ax⟩
 have:RzB b.bx 250:=⟨hb.bx⟩
 have:RzB b.ay 5000:=⟨hb.ay⟩
 have:RzB b.bb 250:=⟨hb.bb⟩
 have:RzB b.c 5000:=⟨hb.c⟩
 have:RzB A 40:=⟨Hc.ln.1⟩
 have:RzB B 40:=⟨Hc.ln.2.1⟩
 have:RzB C 100:=⟨Hc.ln.2.2⟩
 have he:=Hd.p;have hf:=Hd.q;have:RzB e.ax 5000:=⟨he.ax⟩
 have:RzB e.bx 250:=⟨he.bx⟩
 have:RzB e.ay 5000:=⟨he.ay⟩
 have:RzB e.bb 250:=⟨he.bb⟩
 have:RzB e.c 5000:=⟨he.c⟩
 have:RzB f.ax 5000:=⟨hf.ax⟩
 have:RzB f.bx 250:=⟨hf.bx⟩
 have:RzB f.ay 5000:=⟨hf.ay⟩
 have:RzB f.bb 250:=⟨hf.bb⟩
 have:RzB f.c 5000:=⟨hf.c⟩
 have:RzB D 40:=⟨Hd.ln.1⟩
 have:RzB E 40:=⟨Hd.ln.2.1⟩
 have:RzB F 100:=⟨Hd.ln.2.2⟩
 all_goals refine aS func24 rfl ?_
 all_goals(repeat'((try(conv=>whnf));first
  |refine ak ?_ ?_|(with_reducible refine aI ?_)|refine zad (λ_=>?_) (λ_=>?_)|apply zaa))
 all_goals(try apply zab)
 all_goals(try simp only[bn]at *)
 all_goals first
  |rfl|exact zaf|(exfalso;simp_all;done)⟩
instance abl(A B C:Rat)(a b:Pnt)(U V W:Rat)(m:Bool)(e f:Pnt):DenI prog 24 [.agg (xJ A B C a b),.agg (qM U V W m e f)] (PC (⟨.ln A B C,a,b⟩:Cv)/\PC (⟨.ar U V W m,e,f⟩:Cv)) (.bool ((⟨.ln A B C,a,b⟩:Cv).s.same (⟨.ar U V W m,e,f⟩:Cv).s)):=⟨λhp=>by
 obtain⟨Hc,Hd⟩:=hp;have ha:=Hc.p;have hb:=Hc.q;have:RzB a.ax 5000:=⟨ha.ax⟩
 have:RzB a.bx 250:=⟨ha.bx⟩
 have:RzB a.ay 5000:=⟨ha.ay⟩
 have:RzB a.bb 250:=⟨ha.bb⟩
 have:RzB a.c 5000:=⟨ha.c⟩
 have:RzB b.ax 5000:=⟨hb.ax⟩
 have:RzB b.bx 250:=⟨hb.bx⟩
 have:RzB b.ay 5000:=⟨hb.ay⟩
 have:RzB b.bb 250:=⟨hb.bb⟩
 have:RzB b.c 5000:=⟨hb.c⟩
 have:RzB A 40:=⟨Hc.ln.1⟩
 have:RzB B 40:=⟨Hc.ln.2.1⟩
 have:RzB C 100:=⟨Hc.ln.2.2⟩
 have he:=Hd.p;have hf:=Hd.q;have:RzB e.ax 5000:=⟨he.ax⟩
 have:RzB e.bx 250:=⟨he.bx⟩
 have:RzB e.ay 5000:=⟨he.ay⟩
 have:RzB e.bb 250:=⟨he.bb⟩
 have:RzB e.c 5000:=⟨he.c⟩
 have:RzB f.ax 5000:=⟨hf.ax⟩
 have:RzB f.bx 250:=⟨hf.bx⟩
 have:RzB f.ay 5000:=⟨hf.ay⟩
 have:RzB f.bb 250:=⟨hf.bb⟩
 have:RzB f.c 5000:=⟨hf.c⟩
 have:RzB U 100:=⟨Hd.ar.1⟩
 have:RzB V 100:=⟨Hd.ar.2.1⟩
 have:RzB W 400:=⟨Hd.ar.2.2⟩
 all_goals refine aS func24 rfl ?_
 all_goals(repeat'((try(conv=>whnf));first
  |(with_reducible refine aI ?_)|refine zad (λ_=>?_) (λ_=>?_)|apply zaa))
 all_goals(try simp only[bn]at *)
 all_goals first
  |rfl|(exfalso;simp_all;done)⟩
instance ZG(X Y Q:Rat)(k:Bool)(a b:Pnt)(D E F:Rat)(e f:Pnt):DenI prog 24 [.agg (qM X Y Q k a b),.agg (xJ D E F e f)] (PC (⟨.ar X Y Q k,a,b⟩:Cv)/\PC (⟨.ln D E F,e,f⟩:Cv)) (.bool ((⟨.ar X Y Q k,a,b⟩:Cv).s.same (⟨.ln D E F,e,f⟩:Cv).s)):=⟨λhp=>by
 obtain⟨Hc,Hd⟩:=hp;have ha:=Hc.p;have hb:=Hc.q;have:RzB a.ax 5000:=⟨ha.ax⟩
 have:RzB a.bx 250:=⟨ha.bx⟩
 have:RzB a.ay 5000:=⟨ha.ay⟩
 have:RzB a.bb 250:=⟨ha.bb⟩
 have:RzB a.c 5000:=⟨ha.c⟩
 have:RzB b.ax 5000:=⟨hb.ax⟩
 have:RzB b.bx 250:=⟨hb.bx⟩
 have:RzB b.ay 5000:=⟨hb.ay⟩
 have:RzB b.bb 250:=⟨hb.bb⟩
 have:RzB b.c 5000:=⟨hb.c⟩
 have:RzB X 100:=⟨Hc.ar.1⟩
 have:RzB Y 100:=⟨Hc.ar.2.1⟩
 have:RzB Q 400:=⟨Hc.ar.2.2⟩
 have he:=Hd.p;have hf:=Hd.q;have:RzB e.ax 5000:=⟨he.ax⟩
 have:RzB e.bx 250:=⟨he.bx⟩
 have:RzB e.ay 5000:=⟨he.ay⟩
 have:RzB e.bb 250:=⟨he.bb⟩
 have:RzB e.c 5000:=⟨he.c⟩
 have:RzB f.ax 5000:=⟨hf.ax⟩
 have:RzB f.bx 250:=⟨hf.bx⟩
 have:RzB f.ay 5000:=⟨hf.ay⟩
 have:RzB f.bb 250:=⟨hf.bb⟩
 have:RzB f.c 5000:=⟨hf.c⟩
 have:RzB D 40:=⟨Hd.ln.1⟩
 have:RzB E 40:=⟨Hd.ln.2.1⟩
 have:RzB F 100:=⟨Hd.ln.2.2⟩
 all_goals refine aS func24 rfl ?_
 all_goals(repeat'((try(conv=>whnf));first
  |(with_reducible refine aN ?_)|refine zad (λ_=>?_) (λ_=>?_)|apply zaa))
 all_goals(try simp only[bn]at *)
 all_goals first
  |rfl|(exfalso;simp_all;done)⟩
instance aa8(X Y Q:Rat)(k:Bool)(a b:Pnt)(U V W:Rat)(m:Bool)(e f:Pnt):DenI prog 24 [.agg (qM X Y Q k a b),.agg (qM U V W m e f)] (PC (⟨.ar X Y Q k,a,b⟩:Cv)/\PC (⟨.ar U V W m,e,f⟩:Cv)) (.bool ((⟨.ar X Y Q k,a,b⟩:Cv).s.same (⟨.ar U V W m,e,f⟩:Cv).s)):=⟨λhp=>by
 obtain⟨Hc,Hd⟩:=hp;have ha:=Hc.p;have hb:=Hc.q;have:RzB a.ax 5000:=⟨ha.ax⟩
 have:RzB a.bx 250:=⟨ha.bx⟩
 have:RzB a.ay 5000:=⟨ha.ay⟩
 have:RzB a.bb 250:=⟨ha.bb⟩
 have:RzB a.c 5000:=⟨ha.c⟩
 have:RzB b.ax 5000:=⟨hb.ax⟩
 have:RzB b.bx 250:=⟨hb.bx⟩
 have:RzB b.ay 5000:=⟨hb.ay⟩
 have:RzB b.bb 250:=⟨hb.bb⟩
 have:RzB b.c 5000:=⟨hb.c⟩
 have:RzB X 100:=⟨Hc.ar.1⟩
 have:RzB Y 100:=⟨Hc.ar.2.1⟩
 have:RzB Q 400:=⟨Hc.ar.2.2⟩
 have he:=Hd.p;have hf:=Hd.q;have:RzB e.ax 5000:=⟨he.ax⟩
 have:RzB e.bx 250:=⟨he.bx⟩
 have:RzB e.ay 5000:=⟨he.ay⟩
 have:RzB e.bb 250:=⟨he.bb⟩
 have:RzB e.c 5000:=⟨he.c⟩
 have:RzB f.ax 5000:=⟨hf.ax⟩
 have:RzB f.bx 250:=⟨hf.bx⟩
 have:RzB f.ay 5000:=⟨hf.ay⟩
 have:RzB f.bb 250:=⟨hf.bb⟩
 have:RzB f.c 5000:=⟨hf.c⟩
 have:RzB U 100:=⟨Hd.ar.1⟩
 have:RzB V 100:=⟨Hd.ar.2.1⟩
 have:RzB W 400:=⟨Hd.ar.2.2⟩
 all_goals refine aS func24 rfl ?_
 all_goals(repeat'((try(conv=>whnf));first
  |refine ak ?_ ?_|(with_reducible refine aN ?_)|refine zad (λ_=>?_) (λ_=>?_)|apply zaa))
 all_goals(try apply zab)
 all_goals(try simp only[bn]at *)
 all_goals first
  |rfl|exact zaf|(exfalso;simp_all;done)⟩
instance aol(c d:Cv):DenI prog 24 [.agg (dL c),.agg (dL d)] (PC c/\PC d) (.bool (c.s.same d.s)):=⟨λhp=>by
 rcases c with⟨⟨_,_,_⟩|⟨_,_,_,_|_⟩,_,_⟩
 all_goals rcases d with⟨⟨_,_,_⟩|⟨_,_,_,_|_⟩,_,_⟩
 all_goals first
 |exact(abT ..).den hp|exact(abl ..).den hp|exact(ZG ..).den hp|exact(aa8 ..).den hp⟩
end Go.Proofs.YtdpkjhnfklkkjaaGreat
namespace Go.Proofs.YtdpkjhnfklkkjaaGreat
open Go Go.RowKit Go.Sw Go.Proofs.Tryz
set_option maxRecDepth 100000
set_option maxHeartbeats 16000000
set_option synthInstance.maxSize 4000
set_option synthInstance.maxHeartbeats 400000
instance agk(c:Cv)(p:Pnt):DenI prog 9 [.agg (dL c),.agg (aY p)] (PC c/\PB p) (.bool (c.on p)):=⟨λhp=>by
 obtain⟨Hc,hp⟩:=hp
 all_goals refine aS func9 rfl ?_
 all_goals(repeat'((try(conv=>whnf));first
  |refine ak ?_ ?_|(with_reducible first|refine aN ?_|refine aI ?_|refine aO (λ_=>?_) (λ_=>?_))|apply zaa))
 all_goals(try apply zab)
 all_goals first
  |((repeat' apply And.intro)<;>with_reducible assumption)|(refine bE ?_;unfold Cv.on;simp[*];done)⟩
instance ajA(D E F:Rat)(e f p:Pnt):DenI prog 9 [.agg (xJ D E F e f),.agg (aY p)] (PC ⟨.ln D E F,e,f⟩/\PB p) (.bool ((⟨.ln D E F,e,f⟩:Cv).on p)):=⟨λh=>(agk ⟨.ln D E F,e,f⟩ p).den h⟩
instance akh(U V W:Rat)(m:Bool)(e f p:Pnt):DenI prog 9 [.agg (qM U V W m e f),.agg (aY p)] (PC ⟨.ar U V W m,e,f⟩/\PB p) (.bool ((⟨.ar U V W m,e,f⟩:Cv).on p)):=⟨λh=>(agk ⟨.ar U V W m,e,f⟩ p).den h⟩
instance aah(D E F:Rat)(e f:Pnt)(p:Cv):DenI prog 82 [.agg (xJ D E F e f),.agg (dL p)] (PC (⟨.ln D E F,e,f⟩:Cv)/\PC p) (.bool ((⟨.ln D E F,e,f⟩:Cv).cov p)):=⟨λhp=>by
 obtain⟨Hd,hpre⟩:=hp;have he:=Hd.p;have hf:=Hd.q;have:RzB e.ax 5000:=⟨he.ax⟩
 have:RzB e.bx 250:=⟨he.bx⟩
 have:RzB e.ay 5000:=⟨he.ay⟩
 have:RzB e.bb 250:=⟨he.bb⟩
 have:RzB e.c 5000:=⟨he.c⟩
 have:RzB f.ax 5000:=⟨hf.ax⟩
 have:RzB f.bx 250:=⟨hf.bx⟩
 have:RzB f.ay 5000:=⟨hf.ay⟩
 have:RzB f.bb 250:=⟨hf.bb⟩
 have:RzB f.c 5000:=⟨hf.c⟩
 have:RzB D 40:=⟨Hd.ln.1⟩
 have:RzB E 40:=⟨Hd.ln.2.1⟩
 have:RzB F 100:=⟨Hd.ln.2.2⟩
 all_goals refine aS func82 rfl ?_
 all_goals(repeat'((try(conv=>whnf));first
  |refine ak ?_ ?_|(with_reducible first|refine aN ?_|refine aI ?_)|refine zad (λ_=>?_) (λ_=>?_)|refine zac ζ ?_|apply zaa))
 all_goals(try apply zab)
 all_goals(try simp only[bn]at *)
 all_goals(try simp only[Jh,Bool.not_eq_false']at *)
 all_goals first
  |exact bE (WV (by with_reducible assumption))|exact bE (YG (by with_reducible assumption) (by with_reducible assumption))|exact bE (Yo (by with_reducible assumption) (by with_reducible assumption) rfl)|exact⟨by with_reducible assumption,hpre.p⟩|exact⟨by with_reducible assumption,hpre.q⟩|exact hpre|exact⟨hpre.ccw.p,hf⟩|((repeat' apply And.intro)<;>with_reducible assumption)|(exfalso;simp_all;done)⟩
instance ab7(U V W:Rat)(e f:Pnt)(p:Cv):DenI prog 82 [.agg (qM U V W true e f),.agg (dL p)] (PC (⟨.ar U V W true,e,f⟩:Cv)/\PC p) (.bool ((⟨.ar U V W true,e,f⟩:Cv).cov p)):=⟨λhp=>by
 obtain⟨Hd,hpre⟩:=hp;have he:=Hd.p;have hf:=Hd.q;have:RzB e.ax 5000:=⟨he.ax⟩
 have:RzB e.bx 250:=⟨he.bx⟩
 have:RzB e.ay 5000:=⟨he.ay⟩
 have:RzB e.bb 250:=⟨he.bb⟩
 have:RzB e.c 5000:=⟨he.c⟩
 have:RzB f.ax 5000:=⟨hf.ax⟩
 have:RzB f.bx 250:=⟨hf.bx⟩
 have:RzB f.ay 5000:=⟨hf.ay⟩
 have:RzB f.bb 250:=⟨hf.bb⟩
 have:RzB f.c 5000:=⟨hf.c⟩
 have:RzB U 100:=⟨Hd.ar.1⟩
 have:RzB V 100:=⟨Hd.ar.2.1⟩
 have:RzB W 400:=⟨Hd.ar.2.2⟩
 all_goals refine aS func82 rfl ?_
 all_goals(repeat'((try(conv=>whnf));first
  |refine ak ?_ ?_|(with_reducible first|refine aN ?_|refine aI ?_)|refine zad (λ_=>?_) (λ_=>?_)|refine zac ζ ?_|apply zaa))
 all_goals(try apply zab)
 all_goals(try simp only[bn]at *)
 all_goals(try simp only[Jh,Bool.not_eq_false']at *)
 all_goals first
  |exact bE (WV (by with_reducible assumption))|exact bE (YG (by with_reducible assumption) (by with_reducible assumption))|exact zav|exact⟨by with_reducible assumption,hpre.p⟩|exact⟨by with_reducible assumption,hpre.q⟩|exact hpre|exact⟨hpre.ccw.p,he⟩|exact⟨Hd.ar.1,Hd.ar.2.1,Hd.ar.2.2,hpre.ccw.p,hpre.ccw.q,he⟩|((repeat' apply And.intro)<;>with_reducible assumption)|(exfalso;simp_all;done)⟩
instance aa6(U V W:Rat)(e f:Pnt)(p:Cv):DenI prog 82 [.agg (qM U V W false e f),.agg (dL p)] (PC (⟨.ar U V W false,e,f⟩:Cv)/\PC p) (.bool ((⟨.ar U V W false,e,f⟩:Cv).cov p)):=⟨λhp=>by
 obtain⟨Hd,hpre⟩:=hp;have he:=Hd.p;have hf:=Hd.q;have:RzB e.ax 5000:=⟨he.ax⟩
 have:RzB e.bx 250:=⟨he.bx⟩
 have:RzB e.ay 5000:=⟨he.ay⟩
 have:RzB e.bb 250:=⟨he.bb⟩
 have:RzB e.c 5000:=⟨he.c⟩
 have:RzB f.ax 5000:=⟨hf.ax⟩
 have:RzB f.bx 250:=⟨hf.bx⟩
 have:RzB f.ay 5000:=⟨hf.ay⟩
 have:RzB f.bb 250:=⟨hf.bb⟩
 have:RzB f.c 5000:=⟨hf.c⟩
 have:RzB U 100:=⟨Hd.ar.1⟩
 have:RzB V 100:=⟨Hd.ar.2.1⟩
 have:RzB W 400:=⟨Hd.ar.2.2⟩
 all_goals refine aS func82 rfl ?_
 all_goals(repeat'((try(conv=>whnf));first
  |refine ak ?_ ?_|(with_reducible first|refine aN ?_|refine aI ?_)|refine zad (λ_=>?_) (λ_=>?_)|refine zac ζ ?_|apply zaa))
 all_goals(try apply zab)
 all_goals(try simp only[bn]at *)
 all_goals(try simp only[Jh,Bool.not_eq_false']at *)
 all_goals first
  |exact bE (WV (by with_reducible assumption))|exact bE (YG (by with_reducible assumption) (by with_reducible assumption))|exact zav|exact⟨by with_reducible assumption,hpre.p⟩|exact⟨by with_reducible assumption,hpre.q⟩|exact hpre|exact⟨hpre.ccw.p,hf⟩|exact⟨Hd.ar.1,Hd.ar.2.1,Hd.ar.2.2,hpre.ccw.p,hpre.ccw.q,hf⟩|((repeat' apply And.intro)<;>with_reducible assumption)|(exfalso;simp_all;done)⟩
instance anu(d p:Cv):DenI prog 82 [.agg (dL d),.agg (dL p)] (PC d/\PC p) (.bool (d.cov p)):=⟨λhp=>by
 rcases d with⟨⟨_,_,_⟩|⟨_,_,_,_|_⟩,_,_⟩
 .exact(aah ..).den hp
 .exact(aa6 ..).den hp
 .exact(ab7 ..).den hp⟩
instance anZ(c d:Cv):DenI prog 11 [.agg (dL c),.agg (dL d)] (PC c/\PC d) (.bool (c.eq d)):=⟨λhp=>by
 obtain⟨Hc,Hd⟩:=hp
 all_goals refine aS func11 rfl ?_
 all_goals(repeat'((try(conv=>whnf));first
  |refine ak ?_ ?_|(with_reducible first|refine aN ?_|refine aI ?_)|refine zad (λ_=>?_) (λ_=>?_)|apply zaa))
 all_goals(try apply zab)
 all_goals first
  |exact⟨Hc,Hd⟩|exact⟨Hc.p,Hd.p⟩|exact⟨Hc.q,Hd.q⟩|exact bE (amh (by with_reducible assumption))|exact bE (eq_1 (by with_reducible assumption) (by with_reducible assumption))|exact bE (eq_2 (by with_reducible assumption) (by with_reducible assumption) (by with_reducible assumption))|exact bE (akn (by with_reducible assumption) (by with_reducible assumption) (by with_reducible assumption))⟩
end Go.Proofs.YtdpkjhnfklkkjaaGreat
namespace Go.Sw
open Go Go.RowKit
def fN{α:Type}(n:Nat)(k:Nat->α):α:=match n with|0=>k 0|m+1=>k (m+1)
theorem Cb{α:Type}(n:Nat)(k:Nat->α):fN n k=k n:=by cases n<;>rfl
def fI{α:Type}(n:Int)(k:Int->α):α:=match n with|.ofNat m=>fN m λm=>k (.ofNat m)|.negSucc m=>fN m λm=>k (.negSucc m)
theorem BI{α:Type}(n:Int)(k:Int->α):fI n k=k n:=by
 cases n with
 |ofNat m=>exact Cb m λm=>k (.ofNat m)
 |negSucc m=>exact Cb m λm=>k (.negSucc m)
def fB{α:Type}(b:Bool)(k:Bool->α):α:=match b with|true=>k true|false=>k false
theorem ade{α:Type}(b:Bool)(k:Bool->α):fB b k=k b:=by cases b<;>rfl
def fzV(r:Option (AV×aZ)):Option (AV×aZ) :=
 match r with
 |some (.c (.v (.int k n)),f)=>fI n λn=>some (.c (.v (.int k n)),f)
 |some (.c (.v (.bool b)),f)=>fB b λb=>some (.c (.v (.bool b)),f)
 |r=>r
theorem XE(r:Option (AV×aZ)):fzV r=r:=by
 unfold fzV;split
 .exact BI _ _
 .exact ade _ _
 .rfl
def xarg(bx:aZ)(v:AV):Option (AV×aZ) :=
 match v with
 |.c (.v (.slice none 0 0))=>some (.c (.sl 0 []),[])
 |.c x=>some (.c x,[])
 |.agg cs=>some (.agg cs,[])
 |.gs b n=>(match ld b bx with
  |some (.grow _ s es)=>(match Nat.beq n es.length with|true=>some (.c (.sl s es),[(b,.froz s es)])|false=>none)
  |some (.froz s es)=>(match Nat.beq n es.length with|true=>some (.c (.sl s es),[])|false=>none)
  |_=>none)
 |.ptr b o=>(match ld b bx with
  |some (.var cs)=>some (.c (.p (dU o cs)),[(b,.fvar cs)])
  |some (.fvar cs)=>some (.c (.p (dU o cs)),[])
  |_=>none)
 |.rd cs=>some (.c (.p cs),[])
 |_=>none
theorem nM{bx:aZ}{v v':AV}{f:aZ}{k:AV->aZ->Prop}(h:xarg bx v=some (v',f))(hk:k v' f):jQ bx v k:=by
 unfold xarg at h;unfold jQ;split at h
 .cases h;exact hk
 .rename_i x hx;cases h;split<;>first|exact hk|simp_all
 .cases h;exact hk
 .split at h
  .rename_i h1;split at h
   .rename_i h2;cases h;simp only[h1];exact⟨jX h2,hk⟩
   .cases h
  .rename_i h1;split at h
   .rename_i h2;cases h;simp only[h1];exact⟨jX h2,hk⟩
   .cases h
  .cases h
 .split at h
  .rename_i h1;cases h;simp only[h1,pJ];exact hk
  .rename_i h1;cases h;simp only[h1,pJ];exact hk
  .cases h
 .cases h;exact hk
 .cases h
def Em:List AV->aZ->Option (List AV×aZ)
 |[],_=>some ([],[])
 |v::r,bx=>match xarg bx v with
  |some (v',f)=>(match Em r (ups f bx)with
   |some (vs,g)=>some (v'::vs,f++g)
   |none=>none)
  |none=>none
theorem uH:∀{l:List AV} {bx:aZ} {vs:List AV} {f:aZ} {k:List AV->aZ->Prop},Em l bx=some (vs,f)->k vs f->jU l bx k
 |[],bx,vs,f,k,h,hk=>by cases h;exact hk
 |v::r,bx,vs,f,k,h,hk=>by
  simp only[Em]at h;split at h
  .rename_i v' f' h1;split at h
   .rename_i vs' g h2;cases h;exact nM h1 (uH h2 hk)
   .cases h
  .cases h
def BX(e:Env):List (Nat×Operand)->aZ->Option (List (Nat×List Cell)×aZ)
 |[],_=>some ([],[])
 |(i,x)::r,bx=>match ae e x with
  |some v=>(match xarg bx v with
   |some (v',f)=>(match BX e r (ups f bx)with
    |some (vs,g)=>some ((i,cellsOf v')::vs,f++g)
    |none=>none)
   |none=>none)
  |none=>none
theorem rD{e:Env}:∀{l:List (Nat×Operand)} {bx:aZ} {vs:List (Nat×List Cell)} {f:aZ} {k:List (Nat×List Cell)->aZ->Prop},BX e l bx=some (vs,f)->k vs f->oL e l bx k
 |[],bx,vs,f,k,h,hk=>by cases h;exact hk
 |(i,x)::r,bx,vs,f,k,h,hk=>by
  simp only[BX]at h;simp only[oL];split at h
  .rename_i v h0;simp only[h0];split at h
   .rename_i v' f' h1;split at h
    .rename_i vs' g h2;cases h;exact nM h1 (rD h2 hk)
    .cases h
   .cases h
  .cases h
def afD(op:BinOp)(x y:AV):Option AV :=
 match op,x,y with
 |.add,.c (.v (.int ki a)),.c (.v (.int kj b))=>(match decide (ki=kj)with|true=>some (.int ki (ki.wrap (a+b)))|false=>none)
 |.sub,.c (.v (.int ki a)),.c (.v (.int kj b))=>(match decide (ki=kj)with|true=>some (.int ki (ki.wrap (a-b)))|false=>none)
 |.mul,.c (.v (.int ki a)),.c (.v (.int kj b))=>(match decide (ki=kj)with|true=>some (.int ki (ki.wrap (a*b)))|false=>none)
 |.shl,.c (.v (.int ki a)),.c (.v (.int _ b))=>(match decide (0<=b)with|true=>some (.int ki (ki.wrap (a*2^(min b.toNat ki.bits))))|false=>none)
 |.shr,.c (.v (.int ki a)),.c (.v (.int _ b))=>(match decide (0<=b)with|true=>some (.int ki (a.fdiv (2^(min b.toNat ki.bits))))|false=>none)
 |.and,.c (.v (.int ki a)),.c (.v (.int kj b))=>(match decide (ki=kj)with|true=>some (.int ki (AL ki a b))|false=>none)
 |.or,.c (.v (.int ki a)),.c (.v (.int kj b))=>(match decide (ki=kj)with|true=>some (.int ki (orI ki a b))|false=>none)
 |.quo,.c (.v (.int ki a)),.c (.v (.int kj b))=>(match decide (ki=kj),decide (b≠0)with|true,true=>some (.int ki (ki.wrap (a.tdiv b)))|_,_=>none)
 |.rem,.c (.v (.int ki a)),.c (.v (.int kj b))=>(match decide (ki=kj),decide (b≠0)with|true,true=>some (.int ki (a.tmod b))|_,_=>none)
 |.lss,.c (.v (.int ki a)),.c (.v (.int kj b))=>(match decide (ki=kj)with|true=>some (.bool (decide (a<b)))|false=>none)
 |.leq,.c (.v (.int ki a)),.c (.v (.int kj b))=>(match decide (ki=kj)with|true=>some (.bool (decide (a<=b)))|false=>none)
 |.gtr,.c (.v (.int ki a)),.c (.v (.int kj b))=>(match decide (ki=kj)with|true=>some (.bool (decide (a>b)))|false=>none)
 |.geq,.c (.v (.int ki a)),.c (.v (.int kj b))=>(match decide (ki=kj)with|true=>some (.bool (decide (a>=b)))|false=>none)
 |.eql,.c (.v (.int ki a)),.c (.v (.int kj b))=>(match decide (ki=kj)with|true=>some (.bool (decide (a=b)))|false=>none)
 |.neq,.c (.v (.int ki a)),.c (.v (.int kj b))=>(match decide (ki=kj)with|true=>some (.bool (!decide (a=b)))|false=>none)
 |.eql,.c (.v (.string a)),.c (.v (.string b))=>some (.bool (a.toList == b.toList))
 |.neq,.c (.v (.string a)),.c (.v (.string b))=>some (.bool (!(a.toList == b.toList)))
 |_,_,_=>none
theorem aaR{op:BinOp}{x y v:AV}{k:AV->Prop}(h:afD op x y=some v)(hk:k v):DT op x y k:=by
 unfold afD at h;split at h
 all_goals first
  |(cases h;exact hk)|(cases h;done)|(unfold DT;simp only;split at h<;>first|(rename_i h1;cases h;simp only[h1];exact hk)|(rename_i h1;cases h;simp only[h1];exact⟨by simpa using h1,hk⟩)|(rename_i h1;cases h;exact⟨of_decide_eq_true h1,hk⟩)|(rename_i h1 h2;cases h;simp only[h1];exact⟨of_decide_eq_true h2,hk⟩)|(cases h;done))
def Qh(es:List (List Cell)):Int->Option (List Cell)
 |.ofNat j=>es[j]?
 |.negSucc _=>none
theorem Dq{es:List (List Cell)}{i:Int}{e:List Cell}{k:List Cell->Prop}(h:Qh es i=some e)(hk:k e):Elem es i k:=by
 cases i with
 |ofNat j=>exact⟨j,e,rfl,h,hk⟩
 |negSucc j=>cases h
section
variable (C:FuncId->List AV->Option AV) (τ:Tab)
def Yd(ti:TI)(a:AV)(bx:aZ):Option AV :=
 match a with
 |.ptr b off=>(match ld b bx with
  |some (.var cs)=>jd ti (dU off cs)
  |some (.fvar cs)=>jd ti (dU off cs)
  |_=>none)
 |.rd cs=>jd ti cs
 |.c (.p cs)=>jd ti cs
 |.gp g off=>(match ld (GK+g) τ with
  |some (.glob _ cs)=>jd ti (dU off cs)
  |_=>none)
 |.pe b n i off=>(match ld b bx with
  |some (.grow _ _ es)=>(match Nat.beq n es.length,es[i]? with|true,some cs=>jd ti (dU off cs)|_,_=>none)
  |some (.froz _ es)=>(match Nat.beq n es.length,es[i]? with|true,some cs=>jd ti (dU off cs)|_,_=>none)
  |_=>none)
 |_=>none
def adg(ti:TI)(b off:Nat)(cs:List Cell)(v:AV)(bx:aZ):Option aZ :=
 match xarg bx v with
 |some (v',f)=>(match f.any (λp=>Nat.beq p.1 b),szB ti (cellsOf v').length,oK off (cellsOf v') cs with
  |false,true,some cs'=>some (f++[(b,.var cs')])
  |_,_,_=>none)
 |none=>none
def Oa(ti:TI)(a v:AV)(bx:aZ):Option aZ :=
 match a with
 |.ptr b off=>(match ld b bx with
  |some (.var cs)=>(match Wn τ,UD ti,Kr v with
   |true,true,some (b',n)=>(match tN b' bx,oK off [.ob b' n] cs with
    |some m,some cs'=>(match Nat.beq n m with|true=>some [(b,.varo cs')]|false=>none)
    |_,_=>none)
   |_,_,_=>adg ti b off cs v bx)
  |_=>none)
 |.pe b n i off=>(match ld b bx with
  |some (.grow T s es)=>(match xarg bx v with
   |some (v',[])=>(match Nat.beq n es.length,es[i]? with
    |true,some cs=>(match szB ti (cellsOf v').length,oK off (cellsOf v') cs with
     |true,some cs'=>some [(b,.grow T s (es.set i cs'))]
     |_,_=>none)
    |_,_=>none)
   |_=>none)
  |_=>none)
 |_=>none
def OG(fs:List (Nat×Nat×Bool))(i:Nat)(a:AV)(bx:aZ):Option AV :=
 match fs[i]?,a with
 |some (off,_,_),.ptr b o'=>some (.ptr b (o'+off))
 |some (off,_,_),.pe b n j o'=>(match ld b bx with
  |some (.grow _ _ es)=>(match Nat.beq n es.length with|true=>some (.pe b n j (o'+off))|false=>none)
  |some (.froz _ es)=>(match Nat.beq n es.length with|true=>some (.pe b n j (o'+off))|false=>none)
  |_=>none)
 |some (off,_,_),.rd cs=>some (.rd (dU off cs))
 |some (off,_,_),.c (.p cs)=>some (.rd (dU off cs))
 |some (off,_,_),.gp g o'=>some (.gp g (o'+off))
 |_,_=>none
def aeb(ti:TI)(a:AV)(i:Int)(bx:aZ):Option AV :=
 match ti,a with
 |.slice _ s _ _,.c (.sl s' es)=>(match Nat.beq s s',Qh es i with
  |true,some cs=>some (.rd cs)
  |_,_=>none)
 |.slice _ s _ _,.gs b n=>(match ld b bx with
  |some (.grow _ s' es)=>(match Nat.beq s s',Nat.beq n es.length,Qh es i with
   |true,true,some _=>some (.pe b n i.toNat 0)
   |_,_,_=>none)
  |some (.froz s' es)=>(match Nat.beq s s',Nat.beq n es.length,Qh es i with
   |true,true,some cs=>some (.rd cs)
   |_,_,_=>none)
  |_=>none)
 |.arr n s _ _,.ptr b o'=>(match i with|.ofNat i=>(match Nat.blt i n with|true=>some (.ptr b (o'+i*s))|false=>none)|_=>none)
 |.arr n s _ _,.gp g o'=>(match i with|.ofNat i=>(match Nat.blt i n with|true=>some (.gp g (o'+i*s))|false=>none)|_=>none)
 |.arr n s _ _,.rd cs=>(match i with|.ofNat i=>(match Nat.blt i n with|true=>some (.rd (dU (i*s) cs))|false=>none)|_=>none)
 |.arr n s _ _,.c (.p cs)=>(match i with|.ofNat i=>(match Nat.blt i n with|true=>some (.rd (dU (i*s) cs))|false=>none)|_=>none)
 |_,_=>none
def Zp(n:Nat)(lo hi mx:Option Int):Option (Nat×Nat) :=
 match lo.getD 0,hi.getD n,mx.getD n with
 |.ofNat a,.ofNat b,.ofNat m=>(match Nat.ble a b,Nat.ble b m,Nat.ble m n,!mx.isSome||hi.isSome with
  |true,true,true,true=>some (a,b)
  |_,_,_,_=>none)
 |_,_,_=>none
theorem Jg{n:Nat}{lo hi mx:Option Int}{a b:Nat}{k:Nat->Nat->Prop}(h:Zp n lo hi mx=some (a,b))(hk:k a b):SlP n lo hi mx k:=by
 unfold Zp at h;split at h
 .rename_i a' b' m h1 h2 h3;split at h
  .rename_i g1 g2 g3 g4;cases h;refine⟨a,b,m,h1,h2,h3,Nat.le_of_ble_eq_true g1,Nat.le_of_ble_eq_true g2,Nat.le_of_ble_eq_true g3,λq=>?_,hk⟩;rw[q]at g4;exact g4
  .cases h
 .cases h
def aaM(d:Option Nat)(r:AV):Option (AV×aZ) :=
 match r with
 |.own T s es=>(match d with|some i=>some (.gs i es.length,[(i,.grow T s es)])|none=>none)
 |.tup vs=>(match vs.any oQ with
  |false=>some (.tup vs,[])
  |true=>none)
 |r=>some (r,[])
theorem Qi{d:Option Nat}{r v:AV}{f:aZ}{k:AV->aZ->Prop}(h:aaM d r=some (v,f))(hk:k v f):mV d r k:=by
 unfold aaM at h;unfold mV;split at h
 .split at h
  .cases h;exact hk
  .cases h
 .rename_i vs;split at h
  .rename_i h1;cases h;simp only[h1];exact hk
  .cases h
 .rename_i hx hy;cases h;split
  .exact absurd rfl (hx _ _ _)
  .exact absurd rfl (hy _)
  .exact hk
def XA(o:Oper)(f:FuncId)(vs:List AV)(bx:aZ):Option (AV×aZ) :=
 match Em vs bx with
 |some (a_s,fz)=>(match C f a_s with
  |some r=>(match aaM o.dst r with
   |some (v,g)=>(match nU fz g with|true=>some (v,qI r fz++g)|false=>none)
   |none=>none)
  |none=>none)
 |none=>none
theorem Y7{D:FuncId->List AV->AV->Prop}(hC:∀f xs r,C f xs=some r->D f xs r){o:Oper}{f:FuncId}{vs:List AV}{bx:aZ}{v:AV}{fz:aZ}{k:AV->aZ->Prop}(h:XA C o f vs bx=some (v,fz))(hk:k v fz):
 jU vs bx λa_s fz=>CallP D f a_s λr=>mV o.dst r λv g=>(match nU fz g with|true=>k v (qI r fz++g)|false=>False):=by
 unfold XA at h;split at h
 .rename_i a_s fz' h1;split at h
  .rename_i r h2;split at h
   .rename_i v' g h3;split at h
    .rename_i h4;cases h;refine uH h1 ⟨r,hC _ _ _ h2,Qi h3 ?_⟩;rw[h4];exact hk
    .cases h
   .cases h
  .cases h
 .cases h
def OM(f:FuncId)(b n:Nat)(vs:List AV)(bx:aZ):Option (AV×aZ) :=
 match ld b bx with
 |some (.grow T s es)=>(match Em vs bx with
  |some (a_s,[])=>(match Nat.beq n es.length with
   |true=>(match es with
    |[]=>(match C f (.c (.sl s [])::a_s)with|some r=>(match wL r with|true=>some (r,[])|false=>none)|none=>none)
    |e0::er=>(match C f (.own T s (e0::er)::a_s)with
     |some (.tup [.own T' s' es',v])=>(match Nat.beq T T',Nat.beq s s',wL v with|true,true,true=>some (v,[(b,.grow T s es')])|_,_,_=>none)
     |some (.tup [.rd [],v])=>(match wL v with|true=>some (v,[(b,.dead)])|false=>none)
     |_=>none))
   |false=>none)
  |_=>none)
 |_=>none
theorem RV{D:FuncId->List AV->AV->Prop}(hC:∀f xs r,C f xs=some r->D f xs r){f:FuncId}{b n:Nat}{vs:List AV}{bx:aZ}{v:AV}{fz:aZ}{k:AV->aZ->Prop}(h:OM C f b n vs bx=some (v,fz))(hk:k v fz):wJ D f b n vs bx k:=by
 unfold OM at h;unfold wJ;split at h
 .rename_i T s es h1;split at h
  .rename_i a_s h2;split at h
   .rename_i h3;simp only[h1];refine uH h2 ?_;refine⟨jX h3, ?_⟩;split at h
    .split at h
     .rename_i r h4;split at h
      .rename_i h5;cases h;exact⟨λh0=>absurd h0 η,λ_=>⟨_,hC _ _ _ h4,by unfold zI;rw[h5];exact hk⟩⟩
      .cases h
     .cases h
    .rename_i e0 er;split at h
     .rename_i T' s' es' v' h4;split at h
      .rename_i g1 g2 g3;cases h;refine⟨λ_=>⟨_,hC _ _ _ h4, ?_⟩,λh0=>absurd h0 η⟩;unfold uG;simp only[g1,g2,g3];exact hk
      .cases h
     .rename_i v' h4;split at h
      .rename_i g3;cases h;refine⟨λ_=>⟨_,hC _ _ _ h4, ?_⟩,λh0=>absurd h0 η⟩;unfold uG;simp only[g3];exact hk
      .cases h
     .cases h
   .cases h
  .cases h
 .cases h
def Nv(o:Oper)(f:FuncId)(vs:List AV)(bx:aZ):Option (AV×aZ) :=
 match Em vs bx with
 |some (a_s,fz)=>(match C f (.c (.v (.slice none 0 0))::a_s)with
  |some r=>(match aaM o.dst r with
   |some (v,g)=>(match nU fz g with|true=>some (v,qI r fz++g)|false=>none)
   |none=>none)
  |none=>none)
 |none=>none
theorem UH{D:FuncId->List AV->AV->Prop}(hC:∀f xs r,C f xs=some r->D f xs r){o:Oper}{f:FuncId}{vs:List AV}{bx:aZ}{v:AV}{fz:aZ}{k:AV->aZ->Prop}(h:Nv C o f vs bx=some (v,fz))(hk:k v fz):
 jU vs bx λa_s fz=>CallP D f (.c (.v (.slice none 0 0))::a_s) λr=>mV o.dst r λv g=>(match nU fz g with|true=>k v (qI r fz++g)|false=>False):=by
 unfold Nv at h;split at h
 .rename_i a_s fz' h1;split at h
  .rename_i r h2;split at h
   .rename_i v' g h3;split at h
    .rename_i h4;cases h;refine uH h1 ⟨r,hC _ _ _ h2,Qi h3 ?_⟩;rw[h4];exact hk
    .cases h
   .cases h
  .cases h
 .cases h
theorem NS{b:Bool}{k:Bool->Prop}(h:k b):OnB b k:=by
 cases b with
 |true=>exact⟨λ_=>h,λq=>nomatch q⟩
 |false=>exact⟨λq=>(nomatch q),λ_=>h⟩
def adD(t:TypeId)(a:AV)(bx:aZ):Option AV :=
 match ld t τ,a with
 |some (.slice _ _ _ _),.c (.sl _ es)=>some (.int .i64 (es.length:Nat))
 |some (.slice _ _ _ _),.c (.v (.slice none 0 0))=>some (.int .i64 ((0:Nat):Int))
 |some .str,.c (.v (.string s))=>some (.int .i64 (s.size:Nat))
 |some (.slice _ _ _ _),.gs b n=>(match ld b bx with
  |some (.grow _ s es)=>(match Nat.beq n es.length with|true=>some (.int .i64 (es.length:Nat))|false=>none)
  |some (.froz s es)=>(match Nat.beq n es.length with|true=>some (.int .i64 (es.length:Nat))|false=>none)
  |_=>none)
 |_,_=>none
def afz(dst:Option Nat)(t:TypeId)(x y:AV)(bx:aZ):Option (AV×aZ) :=
 match ld t τ,y with
 |some (.slice T s by_ _),.c (.sl s' es')=>(match Nat.beq s s' with
  |true=>(match x with
   |.c (.v (.slice none 0 0))=>(match dst,Nat.ble (es'.length*(by_+1)) 140737488355328 with
    |some d,true=>some (.gs d es'.length,[(d,.grow T s es')])
    |_,_=>none)
   |.gs b n=>(match ld b bx with
    |some (.grow T' s'' es)=>(match Nat.beq T T',Nat.beq s s'',Nat.beq n es.length,Nat.ble ((es++es').length*(by_+1)) 140737488355328 with
     |true,true,true,true=>some (.gs b (es++es').length,[(b,.grow T s (es++es'))])
     |_,_,_,_=>none)
    |_=>none)
   |_=>none)
  |false=>none)
 |some (.slice T s by_ _),.c (.v (.slice none 0 0))=>(match x with
  |.c (.v (.slice none 0 0))=>(match dst with
   |some d=>some (.gs d 0,[(d,.grow T s [])])
   |none=>none)
  |.gs b n=>(match ld b bx with
   |some (.grow T' s'' es)=>(match Nat.beq T T',Nat.beq s s'',Nat.beq n es.length,Nat.ble ((es++[]).length*(by_+1)) 140737488355328 with
    |true,true,true,true=>some (.gs b (es++[]).length,[(b,.grow T s (es++[]))])
    |_,_,_,_=>none)
   |_=>none)
  |_=>none)
 |some (.slice T s by_ _),.gs c m=>(match x with
  |.gs b n=>(match xarg bx (.gs c m),ld b bx,Nat.beq b c with
   |some (.c (.sl s' es'),f),some (.grow T' s'' es),false=>(match Nat.beq T T',Nat.beq s s'',Nat.beq s s',Nat.beq n es.length,Nat.ble ((es++es').length*(by_+1)) 140737488355328 with
    |true,true,true,true,true=>some (.gs b (es++es').length,f++[(b,.grow T s (es++es'))])
    |_,_,_,_,_=>none)
   |_,_,_=>none)
  |.c (.v (.slice none 0 0))=>(match xarg bx (.gs c m),dst with
   |some (.c (.sl s' es'),f),some d=>(match Nat.beq s s',f.any (λp=>Nat.beq p.1 d),Nat.ble (es'.length*(by_+1)) 140737488355328 with
    |true,false,true=>some (.gs d es'.length,f++[(d,.grow T s es')])
    |_,_,_=>none)
   |_,_=>none)
  |_=>none)
 |_,_=>none
def NR(o:Oper)(c:Call)(e:Env)(bx:aZ):Option (AV×aZ) :=
 match c.callee,je (λx=>ae e x) c.args.toList with
 |.value x,some vs=>(match Gg e x,qA vs with
  |some (f,cap),none=>(match wrH τ f vs with
   |.no=>XA C o f (vs++cap) bx
   |.s b n r=>OM C f b n (r++cap) bx
   |.nil r=>Nv C o f (r++cap) bx)
  |_,_=>none)
 |.builtin .len,some [a]=>(match c.argTypes.toList with
  |[t]=>(match adD τ t a bx with|some v=>some (v,[])|none=>none)
  |_=>none)
 |.builtin .append,some [x,y]=>(match c.argTypes.toList with
  |[t,t']=>(match Nat.beq t t' with|true=>afz τ o.dst t x y bx|false=>none)
  |_=>none)
 |.builtin .min,some vs=>(match je Es vs,vs with
  |some (a::r),(.c (.v (.int ki _))::_)=>some (.int ki (r.foldl (λx y=>if y<x then y else x) a),[])
  |_,_=>none)
 |.builtin .max,some vs=>(match je Es vs,vs with
  |some (a::r),(.c (.v (.int ki _))::_)=>some (.int ki (r.foldl (λx y=>if y>x then y else x) a),[])
  |_,_=>none)
 |_,_=>none
def xbo(op:BinOp)(t:TypeId)(x y:AV):Option AV :=
 match x,y with
 |.c (.v (.bool p)),.c (.v (.bool q))=>(match ld t τ,op with
  |some .bool,.eql=>some (.bool (p == q))
  |some .bool,.neq=>some (.bool (p != q))
  |_,_=>none)
 |.agg cs,.agg ds=>(match uz t τ,op with
  |some ks,.eql=>(match ZF ks cs ds with|some q=>some (.bool q)|none=>none)
  |some ks,.neq=>(match ZF ks cs ds with|some q=>some (.bool (!q))|none=>none)
  |_,_=>none)
 |a,b=>afD op a b
def NJ(e:Env)(t:TypeId)(ps:List (Nat×Operand))(bx:aZ):Option (AV×aZ) :=
 match ld t τ,aif τ,BX e ps bx with
 |some (.row _ fs z),false,some (vs,f)=>(match mD fs vs z with|some cs=>some (.agg cs,f)|none=>none)
 |some (.arr n s _ z),_,some (vs,f)=>(match mD (EF s n 0) vs z with|some cs=>some (.agg cs,f)|none=>none)
 |_,_,_=>none
def xbs(d:Option Nat)(e:Env)(t:TypeId)(n:Nat)(ps:List (Nat×Operand))(bx:aZ):Option (AV×aZ) :=
 match ld t τ,inOrder 0 ps,BX e ps bx with
 |some (.slice T s _ _),true,some (vs,f)=>(match yV s vs n,Nat.ble (n*s) 16777216 with
  |some es,true=>(match Wn τ||Nat.beq n 0,d with
   |true,some d=>(match f.any λp=>Nat.beq p.1 d with|false=>some (.gs d n,f++[(d,.grow T s es)])|true=>none)
   |true,none=>none
   |false,_=>some (.c (.sl s es),f))
  |_,_=>none)
 |_,_,_=>none
def xsl(e:Env)(t:TypeId)(x:AV)(lo hi mx:Option Operand)(bx:aZ):Option (AV×aZ) :=
 match ld t τ,x,vW e lo,vW e hi,vW e mx with
 |some (.slice _ s _ _),.c (.sl s' es),some lo,some hi,some mx=>(match Nat.beq s s',Zp es.length lo hi mx with
  |true,some (a,b)=>some (.c (.sl s ((es.take b).drop a)),[])
  |_,_=>none)
 |some (.slice _ s _ _),.gs b n,some lo,some hi,some mx=>(match xarg bx (.gs b n)with
  |some (.c (.sl s' es),f)=>(match Nat.beq s s',Zp es.length lo hi mx with
   |true,some (a,b)=>some (.c (.sl s ((es.take b).drop a)),f)
   |_,_=>none)
  |_=>none)
 |some (.slice _ _ _ _),.c (.v (.slice none 0 0)),some lo,some hi,some mx=>(match Zp 0 lo hi mx with|some _=>some (.c (.v (.slice none 0 0)),[])|none=>none)
 |_,_,_,_,_=>none
def xop(o:Oper)(e:Env)(bx:aZ):Option (AV×aZ) :=
 match o.op with
 |.move x=>(match ae e x with|some v=>some (v,[])|none=>none)
 |.assign x=>(match nilA τ o x with
  |some (d,T,s)=>some (.gs d 0,[(d,.grow T s [])])
  |none=>(match ae e x with|some v=>some (v,[])|none=>none))
 |.pick c a b=>(match ae e c with
  |some (.c (.v (.bool p)))=>(match ae e (cond p a b)with|some v=>some (v,[])|none=>none)
  |_=>none)
 |.alloc t=>(match ld t τ,o.dst with
  |some ti,some d=>(match Lu ti with|true=>some (.ptr d 0,[(d,.var (zeroCells ti))])|false=>none)
  |_,_=>none)
 |.box t x=>(match o.dst,ae e x with
  |some d,some v=>(match xarg bx v with
   |some (v',f)=>(match f.any λp=>Nat.beq p.1 d with|false=>some (.ptr d 0,f++[(d,.var (cellsOf v'))])|true=>none)
   |none=>none)
  |_,_=>none)
 |.load t x=>(match ld t τ,ae e x with
  |some ti,some a=>(match Yd τ ti a bx with|some v=>some (v,[])|none=>none)
  |_,_=>none)
 |.store t x y=>(match wG (ae e y),ld t τ,ae e x,ae e y with
  |none,some ti,some a,some v=>(match Oa τ ti a v bx with|some f=>some (.any,f)|none=>none)
  |_,_,_,_=>none)
 |.fieldAddr t x i=>(match ld t τ,ae e x with
  |some (.row _ fs _),some a=>(match OG fs i a bx with|some v=>some (v,[])|none=>none)
  |_,_=>none)
 |.field t x i=>(match ld t τ,ae e x with
  |some (.row _ fs _),some (.agg cs)=>(match fs[i]? with
   |some (off,s,agg)=>(match takeN s (dU off cs)with
    |some l=>(match agg with
     |true=>some (.agg l,[])
     |false=>(match l with|c::_=>some (.c c,[])|[]=>none))
    |none=>none)
   |none=>none)
  |_,_=>none)
 |.indexAddr t x y=>(match ld t τ,ae e x,ae e y with
  |some ti,some a,some (.c (.v (.int _ i)))=>(match aeb ti a i bx with|some v=>some (v,[])|none=>none)
  |_,_,_=>none)
 |.index t x y=>(match ld t τ,ae e x,ae e y with
  |some .str,some (.c (.v (.string s))),some (.c (.v (.int _ (.ofNat j))))=>(match Nat.blt j s.size with
   |true=>some (.int .u8 ((s.data.toList.getD j 0).toNat:Nat),[])
   |false=>none)
  |_,_,_=>none)
 |.extract x i=>(match ae e x with
  |some (.tup vs)=>(match vs[i]? with|some v=>some (v,[])|none=>none)
  |_=>none)
 |.binOp op t x y u=>(match ae e x,ae e y with
  |some a,some b=>(match xbo τ op t a b with|some v=>some (v,[])|none=>none)
  |_,_=>none)
 |.unOp .not t x=>(match ae e x with|some (.c (.v (.bool b)))=>some (.bool (!b),[])|_=>none)
 |.unOp .neg t x=>(match ae e x with|some (.c (.v (.int ki n)))=>some (.int ki (ki.wrap (0-n)),[])|_=>none)
 |.convert src dst x=>(match ld src τ,ld dst τ,ae e x with
  |some (.int _),some (.int ki),some (.c (.v (.int _ n)))=>some (.int ki (ki.wrap n),[])
  |_,_,_=>none)
 |.build t ps=>NJ τ e t ps.toList bx
 |.buildSlice t n ps=>xbs τ o.dst e t n ps.toList bx
 |.makeSlice t x y=>(match ld t τ,ae e x,ae e y,o.dst with
  |some (.slice T s by_ z),some (.c (.v (.int _ (.ofNat l)))),some (.c (.v (.int _ (.ofNat c)))),some d=>(match Nat.ble l c,Nat.ble (c*(by_+1)) 140737488355328 with
   |true,true=>some (.gs d l,[(d,.grow T s (List.replicate l z))])
   |_,_=>none)
  |_,_,_,_=>none)
 |.slice t x lo hi mx=>(match ae e x with|some a=>xsl τ e t a lo hi mx bx|none=>none)
 |.nilCheck x=>(match ae e x with
  |some (.ptr b o)=>some (.ptr b o,[])
  |some (.rd cs)=>some (.rd cs,[])
  |some (.c (.p cs))=>some (.c (.p cs),[])
  |some (.gp g o')=>some (.gp g o',[])
  |_=>none)
 |.makeFunc fn first captured=>(match fn,first.toList,je (λx=>ae e x) captured.toList with
  |.func g,[],some vs=>(match Em vs bx with
   |some (a_s,f)=>(match cellsAll a_s with|some cs=>some (.c (.fn g cs),f)|none=>none)
   |none=>none)
  |_,_,_=>none)
 |.call c=>NR C τ o c e bx
 |_=>none
variable {C τ} {D:FuncId->List AV->AV->Prop}
theorem X6{ti:TI}{t:TypeId}{x:Operand}{a v:AV}{o:Oper}{e:Env}{bx:aZ}{k:AV->aZ->Prop}(ho:o.op=.load t x)(h1:ld t τ=some ti)(h2:ae e x=some a)(h:Yd τ ti a bx=some v)(hk:k v []):bZ D τ o e bx k:=by
 unfold bZ;simp only[ho,h1,h2];unfold Yd at h;split at h
 .split at h
  .rename_i h3;simp only[h3,h];exact hk
  .rename_i h3;simp only[h3,h];exact hk
  .cases h
 .simp only[h];exact hk
 .simp only[h];exact hk
 .split at h
  .rename_i h3;simp only[h3,h];exact hk
  .cases h
 .split at h
  .rename_i h3;split at h
   .rename_i h4 h5;simp only[h3];refine⟨jX h4,⟨_,_,rfl,h5, ?_⟩⟩;simp only[h];exact hk
   .cases h
  .rename_i h3;split at h
   .rename_i h4 h5;simp only[h3];refine⟨jX h4,⟨_,_,rfl,h5, ?_⟩⟩;simp only[h];exact hk
   .cases h
  .cases h
 .cases h
theorem TB{fs:List (Nat×Nat×Bool)}{n:Nat}{z:List Cell}{t:TypeId}{x:Operand}{i:Nat}{a v:AV}{o:Oper}{e:Env}{bx:aZ}{k:AV->aZ->Prop}(ho:o.op=.fieldAddr t x i)(h1:ld t τ=some (.row n fs z))(h2:ae e x=some a)(h:OG fs i a bx=some v)(hk:k v []):bZ D τ o e bx k:=by
 unfold bZ;simp only[ho,h1,h2];unfold OG at h;split at h
 .rename_i h3;cases h;simp only[h3];exact hk
 .rename_i h3;split at h
  .rename_i h4;split at h
   .rename_i h5;cases h;simp only[h3,h4];exact⟨jX h5,hk⟩
   .cases h
  .rename_i h4;split at h
   .rename_i h5;cases h;simp only[h3,h4];exact⟨jX h5,hk⟩
   .cases h
  .cases h
 .rename_i h3;cases h;simp only[h3];exact hk
 .rename_i h3;cases h;simp only[h3];exact hk
 .rename_i h3;cases h;simp only[h3];exact hk
 .cases h
theorem aau{ti:TI}{ki:IntKind}{t:TypeId}{x y:Operand}{i:Int}{a v:AV}{o:Oper}{e:Env}{bx:aZ}{k:AV->aZ->Prop}(ho:o.op=.indexAddr t x y)(h1:ld t τ=some ti)(h2:ae e x=some a)(h3:ae e y=some (.c (.v (.int ki i))))(h:aeb ti a i bx=some v)(hk:k v []):bZ D τ o e bx k:=by
 unfold bZ;simp only[ho,h1,h2,h3];unfold aeb at h;split at h
 .split at h
  .rename_i h4 h5;cases h;simp only[h4];exact Dq h5 hk
  .cases h
 .split at h
  .rename_i h6;split at h
   .rename_i h4 h5 h7;cases h;simp only[h6,h4];exact⟨jX h5,Dq h7 hk⟩
   .cases h
  .rename_i h6;split at h
   .rename_i h4 h5 h7;cases h;simp only[h6,h4];exact⟨jX h5,Dq h7 hk⟩
   .cases h
  .cases h
 all_goals first
  |(cases h;done)
  |(split at h
    .split at h
     .rename_i h4;cases h;simp only[h4];exact hk
     .cases h
    .cases h)
theorem UN{ti:TI}{t:TypeId}{x y:Operand}{a v:AV}{o:Oper}{e:Env}{bx f:aZ}{k:AV->aZ->Prop}(ho:o.op=.store t x y)(h0:wG (ae e y)=none)(h1:ld t τ=some ti)(h2:ae e x=some a)(h3:ae e y=some v)(h:Oa τ ti a v bx=some f)(hk:k .any f):bZ D τ o e bx k:=by
 unfold bZ;rw[h3]at h0;simp only[ho,h1,h2,h3,h0];unfold Oa at h;split at h
 .split at h
  .rename_i h5;split at h
   .rename_i g1 g2 g3;split at h
    .rename_i g4 g5;split at h
     .rename_i g6;cases h;simp only[h5,g1,g2,g3,g4,g5];exact⟨jX g6,hk⟩
     .cases h
    .cases h
   .rename_i hn;simp only[h5];unfold adg at h;split at h
    .rename_i h6;split at h
     .rename_i h7 h8 h9;cases h;refine nM h6 ?_;simp only[h7,h8,h9];exact hk
     .cases h
    .cases h
  .cases h
 .split at h
  .rename_i h5;split at h
   .rename_i h6;split at h
    .rename_i h7 h8;split at h
     .rename_i h9 h10;cases h;simp only[h5];refine nM h6 ?_;simp only;refine⟨jX h7,⟨_,_,rfl,h8, ?_⟩⟩;simp only[h9,h10];exact hk
     .cases h
    .cases h
   .cases h
  .cases h
 .cases h
theorem ZX{t:TypeId}{c:Call}{a v:AV}{o:Oper}{e:Env}{bx:aZ}{k:AV->aZ->Prop}(ho:o.op=.call c)(h0:c.callee=.builtin .len)(h1:je (λx=>ae e x) c.args.toList=some [a])(h2:c.argTypes.toList=[t])(h:adD τ t a bx=some v)(hk:k v []):bZ D τ o e bx k:=by
 unfold bZ;unfold adD at h;split at h
 .rename_i h3;cases h;simp only[ho,h0,h1,h2,h3];exact hk
 .rename_i h3;cases h;simp only[ho,h0,h1,h2,h3];exact hk
 .rename_i h3;cases h;simp only[ho,h0,h1,h2,h3];exact hk
 .rename_i h3;split at h
  .rename_i h4;split at h
   .rename_i h5;cases h;simp only[ho,h0,h1,h2,h3,h4];exact⟨jX h5,hk⟩
   .cases h
  .rename_i h4;split at h
   .rename_i h5;cases h;simp only[ho,h0,h1,h2,h3,h4];exact⟨jX h5,hk⟩
   .cases h
  .cases h
 .cases h
theorem abh{t t':TypeId}{c:Call}{x y v:AV}{o:Oper}{e:Env}{bx f:aZ}{k:AV->aZ->Prop}(ho:o.op=.call c)(h0:c.callee=.builtin .append)(h1:je (λx=>ae e x) c.args.toList=some [x,y])(h2:c.argTypes.toList=[t,t'])(hb:Nat.beq t t'=true)(h:afz τ o.dst t x y bx=some (v,f))(hk:k v f):bZ D τ o e bx k:=by
 unfold bZ;unfold afz at h;split at h
 .rename_i h3;split at h
  .rename_i h4;split at h
   .split at h
    .rename_i h5 h6;cases h;simp only[ho,h0,h1,h2,hb,h3,h4,h5];exact⟨Nat.le_of_ble_eq_true h6,hk⟩
    .cases h
   .split at h
    .rename_i h5;split at h
     .rename_i h6 h7 h8 h9;cases h;simp only[ho,h0,h1,h2,hb,h3,h4,h5,h6,h7];exact⟨jX h8,Nat.le_of_ble_eq_true h9,hk⟩
     .cases h
    .cases h
   .cases h
  .cases h
 .rename_i h3;split at h
  .split at h
   .rename_i h5;cases h;simp only[ho,h0,h1,h2,hb,h3,h5];exact hk
   .cases h
  .split at h
   .rename_i h5;split at h
    .rename_i h6 h7 h8 h9;cases h;simp only[ho,h0,h1,h2,hb,h3,h5,h6,h7];exact⟨jX h8,Nat.le_of_ble_eq_true h9,hk⟩
    .cases h
   .cases h
  .cases h
 .rename_i h3;split at h
  .split at h
   .rename_i h4 h5 h6;split at h
    .rename_i g1 g2 g3 g4 g5;cases h;simp only[ho,h0,h1,h2,hb,h3];refine nM h4 ?_;simp only[h5,h6,g1,g2,g3];exact⟨jX g4,Nat.le_of_ble_eq_true g5,hk⟩
    .cases h
   .cases h
  .split at h
   .rename_i h4 h5;split at h
    .rename_i g1 g2 g3;cases h;simp only[ho,h0,h1,h2,hb,h3];refine nM h4 ?_;simp only[h5,g1,g2];exact⟨Nat.le_of_ble_eq_true g3,hk⟩
    .cases h
   .cases h
  .cases h
 .cases h
theorem Uh(hC:∀f xs r,C f xs=some r->D f xs r){c:Call}{v:AV}{o:Oper}{e:Env}{bx f:aZ}{k:AV->aZ->Prop}(ho:o.op=.call c)(h:NR C τ o c e bx=some (v,f))(hk:k v f):bZ D τ o e bx k:=by
 unfold NR at h;split at h
 .rename_i h0 h1;split at h
  .rename_i h2 h3;split at h
   .rename_i h4;unfold bZ;simp only[ho,h0,h1,h2,h3,h4];exact Y7 _ hC h hk
   .rename_i h4;unfold bZ;simp only[ho,h0,h1,h2,h3,h4];exact RV _ hC h hk
   .rename_i h4;unfold bZ;simp only[ho,h0,h1,h2,h3,h4];exact UH _ hC h hk
  .cases h
 .rename_i h0 h1;split at h
  .rename_i h2;split at h
   .rename_i h3;cases h;exact ZX ho h0 h1 h2 h3 hk
   .cases h
  .cases h
 .rename_i h0 h1;split at h
  .rename_i h2;split at h
   .rename_i h3;exact abh ho h0 h1 h2 h3 h hk
   .cases h
  .cases h
 .rename_i h0 h1;split at h
  .rename_i h2;cases h;unfold bZ;simp only[ho,h0,h1,h2];exact hk
  .cases h
 .rename_i h0 h1;split at h
  .rename_i h2;cases h;unfold bZ;simp only[ho,h0,h1,h2];exact hk
  .cases h
 .cases h
theorem afd{op:BinOp}{t u:TypeId}{x y:Operand}{a b v:AV}{o:Oper}{e:Env}{bx:aZ}{k:AV->aZ->Prop}(ho:o.op=.binOp op t x y u)(h1:ae e x=some a)(h2:ae e y=some b)(h:xbo τ op t a b=some v)(hk:k v []):bZ D τ o e bx k:=by
 unfold bZ;unfold xbo at h;split at h
 .split at h
  .rename_i h3;cases h;simp only[ho,h1,h2,h3];exact hk
  .rename_i h3;cases h;simp only[ho,h1,h2,h3];exact hk
  .cases h
 .split at h
  .rename_i h3;split at h
   .rename_i h4;cases h;simp only[ho,h1,h2,h3,h4];exact hk
   .cases h
  .rename_i h3;split at h
   .rename_i h4;cases h;simp only[ho,h1,h2,h3,h4];exact hk
   .cases h
  .cases h
 .rename_i hx hy;simp only[ho,h1,h2];exact aaR h hk
theorem Ub{t:TypeId}{ps:Array (Nat×Operand)}{v:AV}{o:Oper}{e:Env}{bx f:aZ}{k:AV->aZ->Prop}(ho:o.op=.build t ps)(h:NJ τ e t ps.toList bx=some (v,f))(hk:k v f):bZ D τ o e bx k:=by
 unfold bZ;unfold NJ at h;split at h
 .rename_i h1 h2 h3;split at h
  .rename_i h4;cases h;simp only[ho,h1,h2];refine rD h3 ?_;simp only[h4];exact hk
  .cases h
 .rename_i h1 h3;split at h
  .rename_i h4;cases h;simp only[ho,h1];refine rD h3 ?_;simp only[h4];exact hk
  .cases h
 .cases h
theorem aen{t:TypeId}{n:Nat}{ps:Array (Nat×Operand)}{v:AV}{o:Oper}{e:Env}{bx f:aZ}{k:AV->aZ->Prop}(ho:o.op=.buildSlice t n ps)(h:xbs τ o.dst e t n ps.toList bx=some (v,f))(hk:k v f):bZ D τ o e bx k:=by
 unfold bZ;unfold xbs at h;split at h
 .rename_i h1 h2 h3;split at h
  .rename_i h4 h5;split at h
   .rename_i h6 h7;split at h
    .rename_i h8;cases h;simp only[ho,h1,h2];refine rD h3 ?_;simp only[h4,h5,h6,h7,h8];exact hk
    .cases h
   .cases h
   .rename_i h6;cases h;simp only[ho,h1,h2];refine rD h3 ?_;simp only[h4,h5,h6];exact hk
  .cases h
 .cases h
theorem adS{t:TypeId}{x:Operand}{lo hi mx:Option Operand}{a v:AV}{o:Oper}{e:Env}{bx f:aZ}{k:AV->aZ->Prop}(ho:o.op=.slice t x lo hi mx)(h0:ae e x=some a)(h:xsl τ e t a lo hi mx bx=some (v,f))(hk:k v f):bZ D τ o e bx k:=by
 unfold bZ;unfold xsl at h;split at h
 .rename_i h1 h2 h3 h4;split at h
  .rename_i h5 h6;cases h;simp only[ho,h0,h1,h2,h3,h4,h5];exact Jg h6 hk
  .cases h
 .rename_i h1 h2 h3 h4;split at h
  .rename_i h5;split at h
   .rename_i h6 h7;cases h;simp only[ho,h0,h1,h2,h3,h4];refine nM h5 ?_;simp only[h6];exact Jg h7 hk
   .cases h
  .cases h
 .rename_i h1 h2 h3 h4;split at h
  .rename_i r h5;obtain⟨p,q⟩:=r;cases h;simp only[ho,h0,h1,h2,h3,h4];exact Jg h5 hk
  .cases h
 .cases h
theorem Xx(hC:∀f xs r,C f xs=some r->D f xs r){v:AV}{o:Oper}{e:Env}{bx f:aZ}{k:AV->aZ->Prop}(h:xop C τ o e bx=some (v,f))(hk:k v f):bZ D τ o e bx k:=by
 unfold xop at h;split at h
 .rename_i ho;split at h
  .rename_i h1;cases h;unfold bZ;simp only[ho,h1];exact hk
  .cases h
 .rename_i ho;split at h
  .rename_i h1;cases h;unfold bZ;simp only[ho,h1];exact hk
  .rename_i h0;split at h
   .rename_i h1;cases h;unfold bZ;simp only[ho,h0,h1];exact hk
   .cases h
 .rename_i ho;split at h
  .rename_i h1;split at h
   .rename_i h2;cases h;unfold bZ;simp only[ho,h1];refine NS ?_;simp only[h2];exact hk
   .cases h
  .cases h
 .rename_i ho;split at h
  .rename_i h1 h2;split at h
   .rename_i h3;cases h;unfold bZ;simp only[ho,h1,h2,h3];exact hk
   .cases h
  .cases h
 .rename_i ho;split at h
  .rename_i h1 h2;split at h
   .rename_i h3;split at h
    .rename_i h4;cases h;unfold bZ;simp only[ho,h1,h2];refine nM h3 ?_;simp only[h4];exact hk
    .cases h
   .cases h
  .cases h
 .rename_i ho;split at h
  .rename_i h1 h2;split at h
   .rename_i h3;cases h;exact X6 ho h1 h2 h3 hk
   .cases h
  .cases h
 .rename_i ho;split at h
  .rename_i h0 h1 h2 h3;split at h
   .rename_i h4;cases h;exact UN ho h0 h1 h2 h3 h4 hk
   .cases h
  .cases h
 .rename_i ho;split at h
  .rename_i h1 h2;split at h
   .rename_i h3;cases h;exact TB ho h1 h2 h3 hk
   .cases h
  .cases h
 .rename_i ho;split at h
  .rename_i h1 h2;split at h
   .rename_i h3;split at h
    .rename_i h4;split at h
     .cases h;unfold bZ;simp only[ho,h1,h2,h3,h4];exact hk
     .split at h
      .cases h;unfold bZ;simp only[ho,h1,h2,h3,h4];exact hk
      .cases h
    .cases h
   .cases h
  .cases h
 .rename_i ho;split at h
  .rename_i h1 h2 h3;split at h
   .rename_i h4;cases h;exact aau ho h1 h2 h3 h4 hk
   .cases h
  .cases h
 .rename_i ho;split at h
  .rename_i h1 h2 h3;split at h
   .rename_i h4;cases h;unfold bZ;simp only[ho,h1,h2,h3];exact⟨_,rfl,by simpa using h4,hk⟩
   .cases h
  .cases h
 .rename_i ho;split at h
  .rename_i h1;split at h
   .rename_i h2;cases h;unfold bZ;simp only[ho,h1,h2];exact hk
   .cases h
  .cases h
 .rename_i ho;split at h
  .rename_i h1 h2;split at h
   .rename_i h3;cases h;exact afd ho h1 h2 h3 hk
   .cases h
  .cases h
 .rename_i ho;split at h
  .rename_i h1;cases h;unfold bZ;simp only[ho,h1];exact hk
  .cases h
 .rename_i ho;split at h
  .rename_i h1;cases h;unfold bZ;simp only[ho,h1];exact hk
  .cases h
 .rename_i ho;split at h
  .rename_i h1 h2 h3;cases h;unfold bZ;simp only[ho,h1,h2,h3];exact hk
  .cases h
 .rename_i ho;exact Ub ho h hk
 .rename_i ho;exact aen ho h hk
 .rename_i ho;split at h
  .rename_i h1 h2 h3 h4;split at h
   .rename_i h5 h6;cases h;unfold bZ;simp only[ho,h1,h2,h3,h4];exact⟨_,_,rfl,rfl,Nat.le_of_ble_eq_true h5,Nat.le_of_ble_eq_true h6,hk⟩
   .cases h
  .cases h
 .rename_i ho;split at h
  .rename_i h1;exact adS ho h1 h hk
  .cases h
 .rename_i ho;split at h
  .rename_i h1;cases h;unfold bZ;simp only[ho,h1];exact hk
  .rename_i h1;cases h;unfold bZ;simp only[ho,h1];exact hk
  .rename_i h1;cases h;unfold bZ;simp only[ho,h1];exact hk
  .rename_i h1;cases h;unfold bZ;simp only[ho,h1];exact hk
  .cases h
 .rename_i ho;split at h
  .rename_i h1 h2;split at h
   .rename_i h3;split at h
    .rename_i h4;cases h;unfold bZ;simp only[ho,h1,h2];refine uH h3 ?_;simp only[h4];exact hk
    .cases h
   .cases h
  .cases h
 .rename_i ho;exact Uh hC ho h hk
 .cases h
end
section
variable (C:FuncId->List AV->Option AV) (τ:Tab)
def xNB{α:Type}(ids:List Nat)(b:aZ)(p:Option α):Option α :=
 match ids with
 |[]=>p
 |ids=>(match jE ids b with|false=>p|true=>none)
def aaJ(O:List Oper)(o:Oper)(e:Env)(b:aZ):Option (Env×AV×aZ×Lg) :=
 match o.guard with
 |none=>xNB (qN o) b (match fzV (xop C τ o e b)with|some (v,f)=>some (e,v,f,IX o e b v f)|none=>none)
 |some (j,want)=>match o9 O j with
  |some t=>(match ld t e with
   |some (.c (.v (.bool p)))=>(match p == want with
    |true=>xNB (qN o) b (match fzV (xop C τ o ((t,.bool p)::e) b)with|some (v,f)=>some ((t,.bool p)::e,v,f,IX o ((t,.bool p)::e) b v f)|none=>none)
    |false=>some ((t,.bool p)::e,.bad,[],⟨[],[],[],[]⟩))
   |some .bad=>some (e,.bad,[],⟨[],[],[],[]⟩)
   |_=>none)
  |none=>none
def aaI(O:List Oper):List Oper->Env->aZ->Option (Env×aZ)
 |[],e,b=>some (e,b)
 |o::r,e,b=>match aaJ C τ O o e b with
  |some (e,v,f,_)=>aaI O r (yF o v e) (ups f b)
  |none=>none
def ZT(O:List Oper):List Oper->Env->aZ->List Lg->Option (Env×aZ×List Lg)
 |[],e,b,lg=>some (e,b,lg)
 |o::r,e,b,lg=>match aaJ C τ O o e b with
  |some (e,v,f,l)=>ZT O r (xH o v e) (ups f b) (lg++[l])
  |none=>none
def ab3(dr:Bool)(O:List Oper)(e:Env)(b:aZ):Option (Env×aZ) :=
 match dr with
 |false=>aaI C τ O O e b
 |true=>xNB (ZB O) b (match ZT C τ O O (prep O e) b []with
  |some (e,b,lg)=>(match adl O lg with|true=>some (e,b)|false=>none)
  |none=>none)
def Pq(F:Env->aZ->Option (Ex×Env×aZ)):Nat->Env->aZ->Option (Ex×Env×aZ)
 |0,_,_=>none
 |n+1,e,b=>match F e b with
  |some (.normal,e,b)=>Pq F n e b
  |r=>r
def EZ(n:Nat):Code->Env->aZ->Option (Ex×Env×aZ)
 |.skip,e,b=>some (.normal,e,b)
 |.region id ops dr,e,b=>(match aej τ id e with
  |none=>(match ab3 C τ dr ops.toList e b with|some (e,b)=>some (.normal,e,b)|none=>none)
  |some (t,i,n)=>(match xarg b (.gs i n)with
   |some (v,f)=>(match ab3 C τ dr ops.toList ((t,v)::e) (ups f b)with|some (e,b)=>some (.normal,e,b)|none=>none)
   |none=>none))
 |.seq x y,e,b=>(match EZ n x e b with
  |some (.normal,e,b)=>EZ n y e b
  |r=>r)
 |.cond c x y,e,b=>(match ae e c with
  |some (.c (.v (.bool p)))=>(match p with|true=>EZ n x e b|false=>EZ n y e b)
  |_=>none)
 |.block id x,e,b=>(match EZ n x e b with
  |some (.exit i,e,b)=>(match Nat.beq i id with|true=>some (.normal,e,b)|false=>some (.exit i,e,b))
  |r=>r)
 |.loop x,e,b=>Pq (EZ n x) n e b
 |.exit id,e,b=>some (.exit id,e,b)
 |.ret,e,b=>some (.ret,e,b)
 |_,_,_=>none
variable {C τ} {D:FuncId->List AV->AV->Prop}
theorem Ob{α:Type}{ids:List Nat}{b:aZ}{q:Option α}{r:α}{p:Prop}(h:xNB ids b q=some r)(hk:q=some r->p):NB ids b p:=by
 cases ids with
 |nil=>exact hk h
 |cons i l =>
  unfold xNB at h;unfold NB;simp only at h ⊢;split at h
  .rename_i h1;rw[h1];exact hk h
  .cases h
theorem Rx(hC:∀f xs r,C f xs=some r->D f xs r){O:List Oper}{o:Oper}{e e':Env}{b f:aZ}{v:AV}{l:Lg}{k:Env->AV->aZ->Lg->Prop}(h:aaJ C τ O o e b=some (e',v,f,l))(hk:k e' v f l):Eb D τ O o e b k:=by
 unfold aaJ at h;unfold Eb;split at h
 .rename_i h1;simp only[h1];refine Ob h λq=>?_
  split at q
  .rename_i h2;rw[XE]at h2;cases q;exact Xx hC h2 hk
  .cases q
 .rename_i h1;simp only[h1];split at h
  .rename_i h2;simp only[h2];split at h
   .rename_i h3;simp only[h3];refine NS ?_;split at h
    .rename_i h4;simp only[h4];refine Ob h λq=>?_
     split at q
     .rename_i h5;rw[XE]at h5;cases q;exact Xx hC h5 hk
     .cases q
    .rename_i h4;cases h;simp only[h4];exact hk
   .rename_i h3;cases h;simp only[h3];exact hk
   .cases h
  .cases h
theorem QB(hC:∀f xs r,C f xs=some r->D f xs r){O:List Oper}{k:Env->aZ->Prop}:∀{l:List Oper} {e e':Env} {b b':aZ},aaI C τ O l e b=some (e',b')->k e' b'->wo D τ O l e b k
 |[],e,e',b,b',h,hk=>by cases h;exact hk
 |o::r,e,e',b,b',h,hk=>by
  simp only[aaI]at h;simp only[wo,yA,oI];split at h
  .rename_i h1;exact Rx hC h1 (QB hC h hk)
  .cases h
theorem O6(hC:∀f xs r,C f xs=some r->D f xs r){O:List Oper}{k:Env->aZ->List Lg->Prop}:∀{l:List Oper} {e e':Env} {b b':aZ} {lg lg':List Lg},ZT C τ O l e b lg=some (e',b',lg')->k e' b' lg'->Ez D τ O l e b lg k
 |[],e,e',b,b',lg,lg',h,hk=>by cases h;exact hk
 |o::r,e,e',b,b',lg,lg',h,hk=>by
  simp only[ZT]at h;simp only[Ez,NY,oI];split at h
  .rename_i h1;exact Rx hC h1 (O6 hC h hk)
  .cases h
theorem Qb(hC:∀f xs r,C f xs=some r->D f xs r){dr:Bool}{O:List Oper}{e e':Env}{b b':aZ}{k:Env->aZ->Prop}(h:ab3 C τ dr O e b=some (e',b'))(hk:k e' b'):Ee D τ dr O e b k:=by
 unfold ab3 at h;split at h
 .exact QB hC h hk
 .simp only[Ee,CY];refine Ob h λq=>?_
  split at q
  .rename_i h1;split at q
   .rename_i h2;cases q;exact O6 hC h1 ⟨h2,hk⟩
   .cases q
  .cases q
theorem JJ{n:Nat}{x:Code}{Q:Ex->Env->aZ->Prop}(ih:∀{e:Env} {b:aZ} {z:Ex} {e':Env} {b':aZ},EZ C τ n x e b=some (z,e',b')->∀{Q:Ex->Env->aZ->Prop},Q z e' b'->nH D τ x Q e b):
 ∀(m:Nat) {e:Env} {b:aZ} {z:Ex} {e':Env} {b':aZ},Pq (EZ C τ n x) m e b=some (z,e',b')->Q z e' b'->Loop (nH D τ x) Q e b
 |0,e,b,z,e',b',h,hk=>by cases h
 |m+1,e,b,z,e',b',h,hk=>by
  simp only[Pq]at h;refine Loop.unroll ?_;split at h
  .rename_i h1;exact ih h1 (JJ ih m h hk)
  .rename_i hn;refine ih h ?_;cases z with
   |normal=>exact absurd h (hn _ _)
   |ret=>exact hk
   |exit i=>exact hk
theorem pG(hC:∀f xs r,C f xs=some r->D f xs r)(n:Nat):∀(c:Code) {e:Env} {b:aZ} {z:Ex} {e':Env} {b':aZ},EZ C τ n c e b=some (z,e',b')->∀{Q:Ex->Env->aZ->Prop},Q z e' b'->nH D τ c Q e b
 |.skip,e,b,z,e',b',h,Q,hk=>by cases h;exact hk
 |.ret,e,b,z,e',b',h,Q,hk=>by cases h;exact hk
 |.exit id,e,b,z,e',b',h,Q,hk=>by cases h;exact hk
 |.region id ops dr,e,b,z,e',b',h,Q,hk=>by
  simp only[EZ]at h;simp only[nH];split at h
  .rename_i h0;simp only[h0];split at h
   .rename_i h1;cases h;exact Qb hC h1 hk
   .cases h
  .rename_i h0;simp only[h0];split at h
   .rename_i h2;refine nM h2 ?_;split at h
    .rename_i h1;cases h;exact Qb hC h1 hk
    .cases h
   .cases h
 |.seq x y,e,b,z,e',b',h,Q,hk=>by
  simp only[EZ]at h;simp only[nH];split at h
  .rename_i h1;exact pG hC n x h1 (pG hC n y h hk)
  .rename_i hn;refine pG hC n x h ?_;cases z with
   |normal=>exact absurd h (hn _ _)
   |ret=>exact hk
   |exit i=>exact hk
 |.cond c x y,e,b,z,e',b',h,Q,hk=>by
  simp only[EZ]at h;simp only[nH];split at h
  .rename_i h1;simp only[h1];refine NS ?_;split at h
   .exact pG hC n x h hk
   .exact pG hC n y h hk
  .cases h
 |.block id x,e,b,z,e',b',h,Q,hk=>by
  simp only[EZ]at h;simp only[nH];split at h
  .rename_i h1;refine pG hC n x h1 ?_;simp only;split at h
   .rename_i h2;cases h;simp only[h2];exact hk
   .rename_i h2;cases h;simp only[h2];exact hk
  .rename_i hn;refine pG hC n x h ?_;cases z with
   |normal=>exact hk
   |ret=>exact hk
   |exit i=>exact absurd h (hn _ _ _)
 |.loop x,e,b,z,e',b',h,Q,hk=>by
  simp only[EZ]at h;simp only[nH];exact JJ (pG hC n x) n h hk
 |.rangeFunc _ _ _ _,e,b,z,e',b',h,Q,hk=>by simp[EZ]at h
 |.scope _,e,b,z,e',b',h,Q,hk=>by simp[EZ]at h
 |.label _,e,b,z,e',b',h,Q,hk=>by simp[EZ]at h
 |.goto _,e,b,z,e',b',h,Q,hk=>by simp[EZ]at h
 |.refuse _,e,b,z,e',b',h,Q,hk=>by simp[EZ]at h
end
section
variable (τ:Tab)
def afQ(e:Env)(b:aZ)(r:ResultVar):Option AV :=
 match r with
 |.tmp t=>(match ld t e with|some v=>(match xarg b v with|some (v',_)=>some v'|none=>none)|none=>none)
 |.cell a t=>(match ld t τ,ld a e with
  |some ti,some (.ptr i 0)=>(match ld i b with|some (.var cs)=>jd ti cs|_=>none)
  |_,_=>none)
def Rh(e:Env)(b:aZ):List ResultVar->Option (List AV)
 |[]=>some []
 |r::l=>match afQ τ e b r with
  |some v=>(match Rh e b l with|some vs=>some (v::vs)|none=>none)
  |none=>none
def Yw(fn:Func):Ex->Env->aZ->Option AV
 |.ret,e,b=>(match Rh τ e b fn.results.toList with|some vs=>some (aW vs)|none=>none)
 |.normal,e,b=>(match fn.results.toList with|[]=>some (.tup [])|_=>none)
 |_,_,_=>none
variable {τ}
theorem aa9{e:Env}{b:aZ}{r:ResultVar}{v:AV}{k:AV->Prop}(h:afQ τ e b r=some v)(hk:k v):IK τ e b r k:=by
 unfold afQ at h;unfold IK;split at h
 .split at h
  .rename_i h1;split at h
   .rename_i h2;cases h;simp only[h1];exact nM h2 hk
   .cases h
  .cases h
 .split at h
  .rename_i h1 h2;split at h
   .rename_i h3;simp only[h1,h2,h3,h];exact hk
   .cases h
  .cases h
theorem Eo{e:Env}{b:aZ}:∀{l:List ResultVar} {vs:List AV} {k:List AV->Prop},Rh τ e b l=some vs->k vs->CP τ e b l k
 |[],vs,k,h,hk=>by cases h;exact hk
 |r::l,vs,k,h,hk=>by
  simp only[Rh]at h;simp only[CP];split at h
  .rename_i h1;split at h
   .rename_i h2;cases h;exact aa9 h1 (Eo h2 hk)
   .cases h
  .cases h
theorem Pg{fn:Func}{z:Ex}{e:Env}{b:aZ}{r:AV}(h:Yw τ fn z e b=some r):EJ τ fn r z e b:=by
 unfold Yw at h;unfold EJ;split at h
 .split at h
  .rename_i h1;cases h;exact Eo h1 ⟨rfl⟩
  .cases h
 .split at h
  .rename_i h1;cases h;simp only[h1];exact⟨rfl⟩
  .cases h
 .cases h
end
theorem UM{k1 k2:Kp}(h:k1.l.map (·.1)=k2.l.map (·.1))(d:Nat):@zn k1 d = @zn k2 d:=by
 have key:∀l:List (Nat×Value),(l.all λp=>!(Nat.beq p.1 d))=(l.map (·.1)).all λt=>!(Nat.beq t d):=λl=>by
  induction l with
  |nil=>rfl
  |cons p r ih=>simp[List.all_cons,ih]
 unfold zn;rw[key,key,h]
theorem Tq{k1 k2:Kp}(h:k1.l.map (·.1)=k2.l.map (·.1))(N:Nat)(O:List Oper):@pU k1 N O = @pU k2 N O:=by
 unfold pU;congr 1
 funext o
 cases o.dst with
 |none=>rfl
 |some d=>simp only[UM h]
theorem iO{k1 k2:Kp}(h:k1.l.map (·.1)=k2.l.map (·.1))(N:Nat):∀c:Code,@fV k1 N c = @fV k2 N c
 |.region _ ops dr=>by simp only[fV,Tq h]
 |.seq x y=>by simp only[fV,iO h N x,iO h N y]
 |.cond _ x y=>by simp only[fV,iO h N x,iO h N y]
 |.block _ x=>by simp only[fV,iO h N x]
 |.loop x=>by simp only[fV,iO h N x]
 |.skip=>rfl
 |.ret=>rfl
 |.exit _=>rfl
 |.rangeFunc _ _ _ _=>rfl
 |.scope _=>rfl
 |.label _=>rfl
 |.goto _=>rfl
 |.refuse _=>rfl
@[reducible] def Vs(u:Value):Kp:=⟨[(0,u)],[]⟩
def Bh(N:Nat)(c:Code):Bool:=@fV (Vs undef) N c
theorem jy{N:Nat}{c:Code}(u:Value)(h:Bh N c=true):@fV (Vs u) N c=true:=(iO (k1:=Vs u) (k2:=Vs undef) rfl N c).trans h
theorem xq{w w':World}{X X':List Nat}{u:Value}{c:Cell}(hc:kX c=true)(h:RepC w X u c):RepC w' X' u c:=by
 cases h with
 |v u h=>exact .v u h
 |sl=>simp[kX]at hc
 |p=>simp[kX]at hc
 |fn=>simp[kX]at hc
theorem Dk{w w':World}{X X':List Nat}{us:List Value}{cs:List Cell}(hc:cs.all kX=true)(h:RepL w X us cs):RepL w' X' us cs :=
 ⟨h.len,λj u c a b=>xq (oH.1 hc c (Gt b)) (h.get j u c a b)⟩
theorem Ol{w w':World}{X X':List Nat}{u:Value}{r:AV}(hp:lU r=true)(h:RepR w X u r):RepR w' X' u r:=by
 cases h with
 |d h =>
  cases h with
  |c h=>exact .d (.c (xq (by simpa[lU]using hp) h))
  |agg h=>exact .d (.agg (Dk (by simpa[lU]using hp) h))
 |tup hl h =>
  refine .tup hl λi u v a b=>?_
  have hv:=oH.1 (show(_:List AV).all _=true from hp) v (Gt b);have hr:=h i u v a b;cases hr with
  |c h=>exact .c (xq hv h)
  |agg h=>exact .agg (Dk hv h)
section
variable {P:Program} [Wld P] {τ:Tab}
theorem abC{N:Nat}{a:Act}{u0:Value}{vs:List Value}{xs:List AV}(hl:vs.length=xs.length)(hF:Frm N a (uw 0 (u0::vs))):a.tmps.getD 0 undef=u0/\∀t v,ld t (uM 1 xs)=some v->1<=t/\∃u,vs[t-1]?=some u/\xs[t-1]?=some v/\a.tmps.getD t undef=u:=by
 have key:∀(vs:List Value) (i t:Nat) u,vs[t]?=some u->lk (i+t) (uw i vs)=some u:=by
  intro vs;induction vs with
  |nil=>intro i t u h;simp at h
  |cons x r ih =>
   intro i t u h;cases t with
   |zero=>simp at h;subst h;simp[uw,lk]
   |succ t =>
    simp only[uw,lk];rw[gI ω];have:=ih (i+1) t u (by simpa using h);rw[show i+1+t=i+(t+1) by omega]at this;exact this
 refine⟨hF.get 0 u0 (by have:=key (u0::vs) 0 0 u0 rfl;simpa using this),λt v hv=>?_⟩;obtain⟨h1,h2⟩:=Bz xs 1 t v hv;have hlt:t-1<vs.length:=by rw[hl];exact(qG.1 h2).1
 have h3:vs[t-1]?=some vs[t-1]:=pW hlt;refine⟨h1,_,h3,h2,hF.get t _ ?_⟩
 have:=key (u0::vs) 0 t vs[t-1] (by
  obtain⟨t',rfl⟩:∃t',t=t'+1:=⟨t-1,ω⟩
  simpa using h3)
 simpa using this
theorem ML{X:List Nat}{g x:Nat}(h:x∈X.filter λx=>!(Nat.beq x g)):x∈X/\x≠g:=by
 obtain⟨h1,h2⟩:=yS.1 h;exact⟨h1,λe=>by subst e;simp at h2⟩
theorem Z7{X:List Nat}{g x:Nat}(h:x∈X)(hn:x≠g):x∈X.filter λx=>!(Nat.beq x g):=yS.2 ⟨h,by simp[gI hn]⟩
theorem uD{N:Nat}{w:World}{X:List Nat}{g cap:Nat}{T s:Nat}{uss:List (List Value)}{rest vs:List Value}{es:List (List Cell)}{xs:List AV}{a:Act}(hX:∀m∈X,m<w.heap.size)(hgX:g∈X)(hg:w.heap[g]?=some (.cells (uss.flatten++rest).toArray T (0,0)))(hS:RepS w X s uss es)(hc:cap*s=(uss.flatten++rest).length)(hm:cap<=maxLen)(hn:es.length<=cap)(hs:0<s)
 (hl:vs.length=xs.length) (hR:∀(i:Nat) u v,vs[i]?=some u->xs[i]?=some v->RepD w X u v) (hF:Frm N a (uw 0 (.slice (some ⟨g,0,none⟩) es.length cap::vs))) :
 @Conc (Vs (.slice (some ⟨g,0,none⟩) es.length cap)) ⟨[g]⟩ N w (X.filter λx=>!(Nat.beq x g)) ((0,.gs 0 es.length)::uM 1 xs) [(0,.grow T s es)] a w:=by
 letI G:Gr:=⟨[g]⟩
 letI K:Kp:=Vs (.slice (some ⟨g,0,none⟩) es.length cap)
 obtain⟨h0,henv⟩:=abC hl hF
 have hsub:∀x∈bl [(g,T,(uss.flatten++rest).toArray)]++X.filter (λx=>!(Nat.beq x g)),x∈X:=λx hx=>by
  rcases uh.1 hx with hx|hx
  .obtain⟨q,hq,rfl⟩:=iV.1 hx;rw[pI.1 hq];exact hgX
  .exact(ML hx).1
 let m0:MB:=⟨false,true,some g,T,s,es.length,cap,uss.flatten++rest,none⟩
 have hM:∀b m,(λi=>if i=0 then some m0 else none:MM) b=some m->b=0/\m=m0:=λb m h=>by
  by_cases hb:b=0
  .subst hb;simp at h;exact⟨rfl,h.symm⟩
  .simp[hb]at h
 refine⟨[(g,T,(uss.flatten++rest).toArray)],(λi=>if i=0 then some m0 else none),⟨⟨BelG.refl _,λq hq=>?_,List.pairwise_singleton _ _⟩,⟨λb m x h hx=>?_,λb m x b' m' g' h hx=>?_,λb m x b' m' x' h hx=>?_⟩,λb m h ho g' hg'=>?_,λb b' m m' g' h h' _ _ _ _=>?_⟩,λm hm'=>?_,hF.size,⟨⟨hF.defers,λt u h=>?_⟩,λ_ _ h=>nomatch h⟩,λt v hv=>?_,λi x h=>?_⟩
 .rw[pI.1 hq];exact⟨hg,.inr (pI.2 rfl)⟩
 .obtain⟨_,rfl⟩:=hM b m h;cases hx
 .obtain⟨_,rfl⟩:=hM b m h;cases hx
 .obtain⟨_,rfl⟩:=hM b m h;cases hx
 .obtain⟨_,rfl⟩:=hM b m h;cases hg';exact pI.2 rfl
 .obtain⟨e1,_⟩:=hM b m h;obtain⟨e2,_⟩:=hM b' m' h';rw[e1,e2]
 .obtain⟨h1,h2⟩:=ML hm';exact⟨hX m h1,λh=>h2 (pI.1 h)⟩
 .obtain⟨rfl,rfl⟩:t=0/\u=_:=by
   have:(t,u)∈[(0,Value.slice (some ⟨g,0,none⟩) es.length cap)]:=h;simpa using this
  exact h0
 .by_cases ht:t=0
  .subst ht;rw[dn]at hv;cases hv;rw[h0];exact .gs (m:=m0) rfl rfl (jg _) (λ_=>rfl) ⟨_,_,rfl⟩
  .rw[dD _ _ (λe=>ht e.symm)]at hv;obtain⟨_,u,k1,k2,k3⟩:=henv t v hv;rw[k3];exact .d ((hR _ u v k1 k2).ext (Ext.drop hsub))
 .by_cases hi:i=0
  .subst hi;rw[dn]at h;cases h;exact⟨m0,rfl,rfl,rfl,rfl,⟨rfl,hs⟩,rfl,.inr ⟨g,uss,rest,rfl,rfl,hS.ext (Ext.drop hsub),hc,hm,hn⟩⟩
  .rw[dD _ _ (λe=>hi e.symm)]at h;simp[ld]at h
def ahu(τ:Tab)(fn:Func)(T s:Nat)(es':List (List Cell))(n:Nat)(r:AV):Ex->Env->aZ->Prop
 |.ret,e,b=>(ld 0 e=some (.gs 0 n)/\ld 0 b=some (.grow T s es')/\es'.length=n)/\CP τ e b fn.results.toList λvs=>Ends r (aW vs)
 |.normal,e,b=>(ld 0 e=some (.gs 0 n)/\ld 0 b=some (.grow T s es')/\es'.length=n)/\fn.results.toList=[]/\r=.tup []
 |_,_,_=>False
theorem Bj{fn:Func}{a:Act}{w':World}{us:List Value}{R:Value->World->Prop}(hd:a.defers=[])(h1:(fn.results.toList.mapM (iw a.tmps)).run P w'=.ok us w')(hR:R (if h:us.toArray.size=1 then us.toArray[0]else .tuple us.toArray) w'):a.defers=[]/\∃v,(results fn a.tmps).run P w'=.ok v w'/\Ar R (.returned v) w':=by
 refine⟨hd,_, ?_,_,rfl,hR⟩;rw[jV,Sem.run_bind,qbQ];simp[h1]
theorem qO{g:Nat}{w w':World}(h : @BelG ⟨[g]⟩ w w'):w.grownBy w' (some g):=by
 letI G:Gr:=⟨[g]⟩
 exact⟨h.os,h.tape,h.output,h.size,λk hk hne=>h.block k hk (λhm=>hne (by rw[show k=g from pI.1 hm]))⟩
theorem Xo{f:FuncId}{fn:Func}{c:Code}{T s:Nat}{es:List (List Cell)}{xs:List AV}{r:AV}(hw:∀w:World,Wld.ok P w)(hτ:dQ P τ=true)(hm:P.follows .mixedOrders=true)(hf:P.funcs[f]?=some fn)(hb:fn.body=some c)(hbody:fE P f=true)(ht:Bh fn.ntmps c=true)(hle:Nat.ble (xs.length+1) fn.ntmps=true)
 (h:nH (Den P) τ c (EJ τ fn r) ((0,.gs 0 es.length)::uM 1 xs) [(0,.grow T s es)]):EW P f T s es xs r:=by
 refine⟨hbody,λw X g cap uss rest vs ho hX hgX hg hS hc hcm hn hs hl hR=>?_⟩
 letI G:Gr:=⟨[g]⟩
 letI K:Kp:=Vs (.slice (some ⟨g,0,none⟩) es.length cap)
 haveI:WOk P w:=⟨λw' _=>hw w'⟩
 refine enter hf hb rfl (by simp only[ji,hl];exact hle) λa hF=>?_
 have hcc:=uD hX hgX hg hS hc hcm hn hs hl hR hF;refine iL hτ hm c (jy _ ht) h hcc λx e b a w' hx hc'=>?_
 obtain⟨S,M,hst⟩:=hc';have hgr:=qO hst.ms.st.below;cases x with
 |normal =>
  simp only[EJ]at hx;split at hx
  .rename_i hr;have e:=hx.eq;subst e;exact Bj (us:=[]) hst.df.1.1 (by rw[hr];simp) ⟨.tup rfl (λi u v h=>by simp at h),hgr⟩
  .cases hx
 |ret =>
  simp only[EJ]at hx;obtain⟨us,vs,h1,h2,h3,h4⟩:=yI hτ hst hx;have e:=h1.eq;subst e;exact Bj hst.df.1.1 h2 ⟨GX h3 h4,hgr⟩
 |exit id=>cases hx
theorem RN{f:FuncId}{fn:Func}{c:Code}{T s:Nat}{es es':List (List Cell)}{xs:List AV}{r:AV}(hw:∀w:World,Wld.ok P w)(hτ:dQ P τ=true)(hm:P.follows .mixedOrders=true)(hf:P.funcs[f]?=some fn)(hb:fn.body=some c)(hbody:fE P f=true)(ht:Bh fn.ntmps c=true)(hle:Nat.ble (xs.length+1) fn.ntmps=true)(hp:lU r=true)
 (h:nH (Den P) τ c (ahu τ fn T s es' es.length r) ((0,.gs 0 es.length)::uM 1 xs) [(0,.grow T s es)]):ae2 P f T s es xs es' r:=by
 refine⟨hbody,λw X g cap uss rest vs ho hX hgX hg hS hc hcm hn hs hl hR=>?_⟩
 letI G:Gr:=⟨[g]⟩
 letI K:Kp:=Vs (.slice (some ⟨g,0,none⟩) es.length cap)
 haveI:WOk P w:=⟨λw' _=>hw w'⟩
 refine enter hf hb rfl (by simp only[ji,hl];exact hle) λa hF=>?_
 have hcc:=uD hX hgX hg hS hc hcm hn hs hl hR hF;refine iL hτ hm c (jy _ ht) h hcc λx e b a w' hx hc'=>?_
 obtain⟨S,M,hst⟩:=hc';have hgr:=qO hst.ms.st.below
 have hend:(ld 0 e=some (.gs 0 es.length)/\ld 0 b=some (.grow T s es')/\es'.length=es.length)->es'.length=es.length/\∃(uss':List (List Value)) (rest':List Value),w'.heap[g]?=some (.cells (uss'.flatten++rest').toArray T (0,0))/\RepS w' X s uss' es'/\rest'.length=rest.length:=by
  rintro ⟨k1,k2,k3⟩;obtain⟨m,hM,q1,q2,q3,q4,q5,q6⟩:=hst.box 0 _ k2;have hv:=hst.env 0 _ k1;have hu0:a.tmps.getD 0 undef=.slice (some ⟨g,0,none⟩) es.length cap:=hst.df.1.2 0 _ (pI.2 rfl);rw[hu0]at hv;cases hv with
  |d hd=>cases hd
  |gs hm' _ _ hh _ =>
   rw[hM]at hm';cases hm';have he:=hh (by rw[q5,k3]);unfold hdr at he;rcases q6 with⟨g1,_,g3⟩|⟨g',uss',rest',g1,g2,g3,g4,g5,g6⟩
   .rw[g1]at he;cases he
   .rw[g1]at he;simp only[vI,Value.slice.injEq,qH,Addr.mk.injEq]at he;obtain⟨⟨rfl,_⟩,_,hcap⟩:=he;have hrow:=hst.row hM q2 g1;rw[g2,q3]at hrow
    have hsub:∀x∈X,x∈bl S++X.filter (λx=>!(Nat.beq x g)):=λx hx=>by
     by_cases hxg:x=g
     .subst hxg;exact yQ _ (iV.2 ⟨_,hst.ms.inS 0 m hM q2 _ g1,rfl⟩)
     .exact qP _ (Z7 hx hxg)
    have hS':=g3.ext (Ext.drop hsub);refine⟨k3,uss',rest',hrow,hS', ?_⟩;have l1:=fC hS'.sz;have l2:=fC hS.sz;rw[hS'.len]at l1;rw[hS.len]at l2;rw[g2,<-hcap,rQ]at g4;rw[rQ]at hc;rw[k3]at l1;omega
 cases x with
 |normal =>
  obtain⟨hx1,hr,rfl⟩:=hx;obtain⟨e1,e2⟩:=hend hx1;exact Bj (us:=[]) hst.df.1.1 (by rw[hr];simp) ⟨.tup rfl (λi u v h=>by simp at h),hgr,e1,e2⟩
 |ret =>
  obtain⟨hx1,hx2⟩:=hx;obtain⟨e1,e2⟩:=hend hx1;obtain⟨us,vs,h1,h2,h3,h4⟩:=yI hτ hst hx2;have e:=h1.eq;subst e;exact Bj hst.df.1.1 h2 ⟨Ol hp (GX h3 h4),hgr,e1,e2⟩
 |exit id=>cases hx
end
def YB(τ:Tab)(fn:Func)(T s n:Nat)(z:Ex)(e:Env)(b:aZ):Option AV :=
 match Yw τ fn z e b with
 |some r=>(match lU r,ld 0 e,ld 0 b with
  |true,some (.gs 0 n'),some (.grow T' s' es')=>(match Nat.beq n' n,Nat.beq T' T,Nat.beq s' s,Nat.beq es'.length n with
   |true,true,true,true=>some (.tup [.own T s es',r])
   |_,_,_,_=>none)
  |false,_,_=>some (.tup [.rd [],r])
  |_,_,_=>none)
 |none=>none
theorem Wp{τ:Tab}{fn:Func}{T s n:Nat}{z:Ex}{e:Env}{b:aZ}{q:AV}(h:YB τ fn T s n z e b=some q):
 (∃es' r,q=.tup [.own T s es',r]/\lU r=true/\ahu τ fn T s es' n r z e b)\/∃r,q=.tup [.rd [],r]/\EJ τ fn r z e b:=by
 unfold YB at h;split at h
 .rename_i r h1;split at h
  .rename_i n' T' s' es' h2 h3 h4;split at h
   .rename_i g1 g2 g3 g4;have e1:=jX g1;have e2:=jX g2;have e3:=jX g3;have e4:=jX g4;subst e1 e2 e3;cases h;refine .inl ⟨es',r,rfl,h2, ?_⟩;unfold Yw at h1;split at h1
    .split at h1
     .rename_i h5;cases h1;exact⟨⟨h3,h4,e4⟩,Eo h5 ⟨rfl⟩⟩
     .cases h1
    .split at h1
     .rename_i h5;cases h1;exact⟨⟨h3,h4,e4⟩,h5,rfl⟩
     .cases h1
    .cases h1
   .cases h
  .cases h;exact .inr ⟨r,rfl,Pg h1⟩
  .cases h
 .cases h
def ae9(k:Nat)(r:AV):AV :=
 match r with
 |.c (.sl 0 []) => .c (.sl k [])
 |.tup (.c (.sl 0 [])::vs) => .tup (.c (.sl k [])::vs)
 |r=>r
theorem Fp{w:World}{X:List Nat}{u:Value}{a k:Nat}(h:RepC w X u (.sl a [])):RepC w X u (.sl k []):=by
 obtain⟨A,cap,uss,rfl,h1,h2,h3,h4⟩:=RepS.of_sl h;exact .sl A 0 cap k [] [] rfl rfl (Cl.nil _ _ _) h1 h2 (λi us e h=>by simp at h) (λi us e h=>by simp at h)
theorem WU{P:Program}[Wld P]{f:FuncId}{xs:List AV}{r:AV}(k:Nat)(h:Den P f xs r):Den P f xs (ae9 k r):=by
 unfold ae9;split
 .have h1:Oq P f xs (.c (.sl 0 [])):=by
   unfold Den at h;split at h<;>first|exact h|(rename_i e;cases e)|simp_all
  have h2:Oq P f xs (.c (.sl k [])):=⟨h1.1,λw X vs ho hX hl hR=>(h1.2 w X vs ho hX hl hR).mono λe w' he=>by
   obtain⟨u,rfl,hr,hB⟩:=he;refine⟨u,rfl, ?_,hB⟩;have:=hr.r rfl;cases this with
   |d h=>cases h with
    |c h=>exact(RepR.d (.c (Fp h))).f⟩
  unfold Den;split<;>first|exact h2|(rename_i e;cases e)|simp_all
 .rename_i vs
  have h1:Oq P f xs (.tup (.c (.sl 0 [])::vs)):=by
   unfold Den at h;split at h<;>first|exact h|(rename_i e;cases e)|simp_all
  have h2:Oq P f xs (.tup (.c (.sl k [])::vs)):=⟨h1.1,λw X us ho hX hl hR=>(h1.2 w X us ho hX hl hR).mono λe w' he=>by
   obtain⟨u,rfl,⟨us,vs',G,hu,hB1,hnd,hF⟩,hB⟩:=he;refine⟨u,rfl, ?_,hB⟩;rcases hu with⟨rfl,hv⟩|⟨rfl,rfl,hn⟩
   .cases hv;cases hF with
    |d h t=>cases h with
     |c h=>exact⟨_,_,G,.inl ⟨rfl,rfl⟩,hB1,hnd,.d (.c (Fp h)) t⟩
   .cases hn⟩
  unfold Den;split<;>first|exact h2|(rename_i e;cases e)|simp_all
 .exact h
def Gu(P:Program)(τ:FuncId->Tab)(rs:FuncId->Nat)(C0:(FuncId->List AV->Option AV)->FuncId->List AV->Option AV)(n:Nat):Nat->FuncId->List AV->Option AV
 |0,_,_=>none
 |m+1,f,xs=>match C0 (Gu P τ rs C0 n m) f xs with
  |some r=>some r
  |none=>(match P.funcs[f]? with
   |some fn=>(match fn.body with
    |some c=>(match xs with
     |.own T s es::a_s=>(match fE P f&&(Bh fn.ntmps c&&Nat.ble (a_s.length+1) fn.ntmps)with
      |true=>(match EZ (Gu P τ rs C0 n m) (τ f) n c ((0,.gs 0 es.length)::uM 1 a_s) [(0,.grow T s es)]with
       |some (z,e,b)=>YB (τ f) fn T s es.length z e b
       |none=>none)
      |false=>none)
     |xs=>(match fE P f&&(fV fn.ntmps c&&(Nat.ble xs.length fn.ntmps&&mG xs))with
      |true=>(match EZ (Gu P τ rs C0 n m) (τ f) n c (uM 0 xs) []with
       |some (z,e,b)=>(match Yw (τ f) fn z e b with|some r=>some (ae9 (rs f) r)|none=>none)
       |none=>none)
      |false=>none))
    |none=>none)
   |none=>none)
theorem uF{P:Program}[Wld P]{τ:FuncId->Tab}{rs:FuncId->Nat}{C0:(FuncId->List AV->Option AV)->FuncId->List AV->Option AV}{n:Nat}(hw:∀w:World,Wld.ok P w)(hτ:∀f,dQ P (τ f)=true)(hm:P.follows .mixedOrders=true)
 (hC:∀C:FuncId->List AV->Option AV,(∀f xs r,C f xs=some r->Den P f xs r)->∀f xs r,C0 C f xs=some r->Den P f xs r):∀(m:Nat) (f:FuncId) (xs:List AV) (r:AV),Gu P τ rs C0 n m f xs=some r->Den P f xs r
 |0,f,xs,r,h=>nomatch h
 |m+1,f,xs,r,h=>by
  simp only[Gu]at h;split at h
  .rename_i h1;cases h;exact hC _ (uF hw hτ hm hC m) _ _ _ h1
  .split at h
   .rename_i hf;split at h
    .rename_i hb;split at h
     .rename_i T s es a_s;split at h
      .rename_i hq;simp only[gX]at hq;split at h
       .rename_i hx;rcases Wp h with⟨es',r',rfl,hp,he⟩|⟨r',rfl,he⟩
        .exact RN hw (hτ f) hm hf hb hq.1 hq.2.1 hq.2.2 hp (pG (uF hw hτ hm hC m) n _ hx he)
        .exact Xo hw (hτ f) hm hf hb hq.1 hq.2.1 hq.2.2 (pG (uF hw hτ hm hC m) n _ hx he)
       .cases h
      .cases h
     .split at h
      .rename_i hq;simp only[gX]at hq;split at h
       .rename_i hx;split at h
        .rename_i he;cases h;exact WU _ (zK (hτ f) hm hf hb hq.1 hq.2.1 hq.2.2.1 (pG (uF hw hτ hm hC m) n _ hx (Pg he)) hq.2.2.2)
        .cases h
       .cases h
      .cases h
    .cases h
   .cases h
end Go.Sw
