/-
  Rules of the abstract run, plain laws, and what functions answer, for the law TopMeetings.
  Conditions: none.
-/
import Derived.Test.YtdpkjhnfklkkjaaGreatM16
set_option linter.all false
namespace Go.Proofs.YtdpkjhnfklkkjaaGreat
open Go Go.RowKit Go.Sw Go.Proofs.Tryz
set_option maxRecDepth 100000
set_option maxHeartbeats 16000000
set_option synthInstance.maxSize 4000
set_option synthInstance.maxHeartbeats 400000
theorem qg{x y:List Pnt}{m n:Int}(h:x=y)(k:m=n):aW [AV.c (pL x),AV.int .i64 m]=.tup [.c (pL y),.int .i64 n]:=by rw[h,k];rfl
instance amW(A B C D E F:Rat):DenI prog 72 [Q3 A B C,Q3 D E F] (rz A<=60/\rz B<=60/\rz C<=400/\rz D<=60/\rz E<=60/\rz F<=400) (.tup [.c (pL (Lc A B C D E F)),.int .i64 (erL A B C D E F)]):=⟨λhp=>by
 obtain⟨q0,q1,q2,q3,q4,q5⟩:=hp;have:RzB A 60:=⟨q0⟩
 have:RzB B 60:=⟨q1⟩
 have:RzB C 400:=⟨q2⟩
 have:RzB D 60:=⟨q3⟩
 have:RzB E 60:=⟨q4⟩
 have:RzB F 400:=⟨q5⟩
 all_goals refine aS func72 rfl ?_
 all_goals(repeat'((try(conv=>whnf));first
  |refine aC ?_|refine ak ?_ ?_|(with_reducible refine aO (λ_=>?_) (λ_=>?_))|refine zad (λ_=>?_) (λ_=>?_)|refine zac ζ ?_|apply zaa))
 all_goals(try apply zab)
 all_goals(try simp only[bn]at *)
 all_goals first
  |(refine qg (MC (by with_reducible assumption)) ?_;unfold erL Sprt.same;simp only[*];simp;done)|(refine qg (XT (by with_reducible assumption)) ?_;unfold erL Sprt.same;simp only[*];simp;done)|exact zaf⟩
instance aks(X Y Q:Rat):DenI prog 222 [Q3 X Y Q] (rz X<=10000/\rz Y<=10000/\rz Q<=10000) (R (lI X Y Q)):=⟨λhp=>by
 have:RzB X 10000:=⟨hp.1⟩
 have:RzB Y 10000:=⟨hp.2.1⟩
 have:RzB Q 10000:=⟨hp.2.2⟩
 all_goals refine aS func222 rfl ?_
 all_goals(repeat'((try(conv=>whnf));first
  |refine ak ?_ ?_|refine zac ζ ?_|apply zaa))
 all_goals(try apply zab)
 all_goals first
  |rfl|exact zaf⟩
instance amx(X Y Q U V W:Rat):DenI prog 139 [Q3 X Y Q,Q3 U V W] (rz X<=100/\rz Y<=100/\rz Q<=400/\rz U<=100/\rz V<=100/\rz W<=400/\¬(X=U/\Y=V)) (.tup [Q3 (2*(U-X)) (2*(V-Y)) (lI U V W-lI X Y Q),.int .i64 0]):=⟨λhp=>by
 obtain⟨q0,q1,q2,q3,q4,q5,hn⟩:=hp;have:RzB X 100:=⟨q0⟩
 have:RzB Y 100:=⟨q1⟩
 have:RzB Q 400:=⟨q2⟩
 have:RzB U 100:=⟨q3⟩
 have:RzB V 100:=⟨q4⟩
 have:RzB W 400:=⟨q5⟩
 have:RzB ((2:Int):Rat) 4:=⟨by decide +kernel⟩
 have:RzB (lI X Y Q) 3000:=⟨by unfold lI;exact bF ω⟩
 have:RzB (lI U V W) 3000:=⟨by unfold lI;exact bF ω⟩
 all_goals refine aS func139 rfl ?_
 all_goals(repeat'((try(conv=>whnf));first
  |refine ak ?_ ?_|refine zad (λ_=>?_) (λ_=>?_)|refine zac ζ ?_|apply zaa))
 all_goals(try apply zab)
 all_goals first
  |rfl|(exfalso;simp_all;done)|exact zaf|omega⟩
instance anc(X Y Q U V W:Rat):DenI prog 70 [Q3 X Y Q,Q3 U V W] (SB (.ar X Y Q true)/\SB (.ar U V W true)) (.tup [.c (pL (TD X Y Q U V W)),.int .i64 (erC X Y Q U V W)]):=⟨λhp=>by
 obtain⟨hc,hd⟩:=hp;have:RzB X 100:=⟨fZ (dM hc.1) ψ⟩
 have:RzB Y 100:=⟨fZ (dM hc.2.1) ψ⟩
 have:RzB Q 400:=⟨fZ (dM hc.2.2) ψ⟩
 have:RzB U 100:=⟨fZ (dM hd.1) ψ⟩
 have:RzB V 100:=⟨fZ (dM hd.2.1) ψ⟩
 have:RzB W 400:=⟨fZ (dM hd.2.2) ψ⟩
 all_goals refine aS func70 rfl ?_
 all_goals(repeat'((try(conv=>whnf));first
  |refine ak ?_ ?_|refine zad (λ_=>?_) (λ_=>?_)|apply zaa))
 all_goals(try apply zab)
 all_goals first
  |(rename_i h;simp only[gX,decide_eq_true_eq]at h;refine qg (ahw h.1 h.2.1) ?_;unfold erC;rw[if_pos h];done)|(rename_i g h;simp only[gX,decide_eq_true_eq]at h;refine qg (ahw h.1 h.2) ?_;unfold erC;rw[if_neg (λk=>by rw[decide_eq_true k.1,decide_eq_true k.2.1,decide_eq_true k.2.2]at g;cases g)];done)|(refine qg (akj χ) ?_;unfold erC;simp_all;done)|exact HL.rad hc hd χ|(refine⟨bF ω,bF ω,bF ω,bF ω,bF ω,bF ω, ?_⟩;simp_all;done)|exact zaf⟩
instance Uz(A B C:Rat)(a b:Pnt)(D E F:Rat)(e f:Pnt):DenI prog 25 [.agg (xJ A B C a b),.agg (xJ D E F e f)] (PC (⟨.ln A B C,a,b⟩:Cv)/\PC (⟨.ln D E F,e,f⟩:Cv)/\(⟨.ln A B C,a,b⟩:Cv).s.ok/\(⟨.ln D E F,e,f⟩:Cv).s.ok) (.tup [.c (pL (rC (⟨.ln A B C,a,b⟩:Cv).s (⟨.ln D E F,e,f⟩:Cv).s)),.int .i64 (erS (⟨.ln A B C,a,b⟩:Cv).s (⟨.ln D E F,e,f⟩:Cv).s)]):=⟨λhp=>by
 obtain⟨Hc,Hd,hpre⟩:=hp;have ha:=Hc.p;have hb:=Hc.q;have:RzB a.ax 5000:=⟨ha.ax⟩
 have:RzB a.bx 250:=⟨ha.bx⟩
 have:RzB a.ay 5000:=⟨ha.ay⟩
 have:RzB a.bb 250:=⟨ha.bb⟩
 have:RzB a.c 5000:=⟨ha.c⟩
 have:RzB b.ax 5000:=⟨hb.ax⟩
 have:RzB b.bx 250:=⟨hb.bx⟩
 have:RzB b.ay 5000:=⟨hb.ay⟩
 have:RzB b.bb 250:=⟨hb.bb⟩
 have:RzB b.c 5000:=⟨hb.c⟩
 have:RzB A 40:=⟨Hc.ln.1⟩
 have:RzB B 40:=⟨Hc.ln.2.1⟩
 have:RzB C 100:=⟨Hc.ln.2.2⟩
 have he:=Hd.p;have hf:=Hd.q;have:RzB e.ax 5000:=⟨he.ax⟩
 have:RzB e.bx 250:=⟨he.bx⟩
 have:RzB e.ay 5000:=⟨he.ay⟩
 have:RzB e.bb 250:=⟨he.bb⟩
 have:RzB e.c 5000:=⟨he.c⟩
 have:RzB f.ax 5000:=⟨hf.ax⟩
 have:RzB f.bx 250:=⟨hf.bx⟩
 have:RzB f.ay 5000:=⟨hf.ay⟩
 have:RzB f.bb 250:=⟨hf.bb⟩
 have:RzB f.c 5000:=⟨hf.c⟩
 have:RzB D 40:=⟨Hd.ln.1⟩
 have:RzB E 40:=⟨Hd.ln.2.1⟩
 have:RzB F 100:=⟨Hd.ln.2.2⟩
 all_goals refine aS func25 rfl ?_
 all_goals(repeat'((try(conv=>whnf));first
  |refine ak ?_ ?_|(with_reducible refine aI ?_)|apply zaa))
 all_goals(try apply zab)
 all_goals(try simp only[bn]at *)
 all_goals first
  |rfl|exact zaf⟩
instance Uw(A B C:Rat)(a b:Pnt)(U V W:Rat)(m:Bool)(e f:Pnt):DenI prog 25 [.agg (xJ A B C a b),.agg (qM U V W m e f)] (PC (⟨.ln A B C,a,b⟩:Cv)/\PC (⟨.ar U V W m,e,f⟩:Cv)/\(⟨.ln A B C,a,b⟩:Cv).s.ok/\(⟨.ar U V W m,e,f⟩:Cv).s.ok) (.tup [.c (pL (rC (⟨.ln A B C,a,b⟩:Cv).s (⟨.ar U V W m,e,f⟩:Cv).s)),.int .i64 (erS (⟨.ln A B C,a,b⟩:Cv).s (⟨.ar U V W m,e,f⟩:Cv).s)]):=⟨λhp=>by
 obtain⟨Hc,Hd,hpre⟩:=hp;have ha:=Hc.p;have hb:=Hc.q;have:RzB a.ax 5000:=⟨ha.ax⟩
 have:RzB a.bx 250:=⟨ha.bx⟩
 have:RzB a.ay 5000:=⟨ha.ay⟩
 have:RzB a.bb 250:=⟨ha.bb⟩
 have:RzB a.c 5000:=⟨ha.c⟩
 have:RzB b.ax 5000:=⟨hb.ax⟩
 have:RzB b.bx 250:=⟨hb.bx⟩
 have:RzB b.ay 5000:=⟨hb.ay⟩
 have:RzB b.bb 250:=⟨hb.bb⟩
 have:RzB b.c 5000:=⟨hb.c⟩
 have:RzB A 40:=⟨Hc.ln.1⟩
 have:RzB B 40:=⟨Hc.ln.2.1⟩
 have:RzB C 100:=⟨Hc.ln.2.2⟩
 have he:=Hd.p;have hf:=Hd.q;have:RzB e.ax 5000:=⟨he.ax⟩
 have:RzB e.bx 250:=⟨he.bx⟩
 have:RzB e.ay 5000:=⟨he.ay⟩
 have:RzB e.bb 250:=⟨he.bb⟩
 have:RzB e.c 5000:=⟨he.c⟩
 have:RzB f.ax 5000:=⟨hf.ax⟩
 have:RzB f.bx 250:=⟨hf.bx⟩
 have:RzB f.ay 5000:=⟨hf.ay⟩
 have:RzB f.bb 250:=⟨hf.bb⟩
 have:RzB f.c 5000:=⟨hf.c⟩
 have:RzB U 100:=⟨Hd.ar.1⟩
 have:RzB V 100:=⟨Hd.ar.2.1⟩
 have:RzB W 400:=⟨Hd.ar.2.2⟩
 all_goals refine aS func25 rfl ?_
 all_goals(repeat'((try(conv=>whnf));first
  |refine ak ?_ ?_|(with_reducible first|refine aN ?_|refine aI ?_)|apply zaa))
 all_goals(try apply zab)
 all_goals(try simp only[bn]at *)
 all_goals first
  |rfl|exact HL.of Hc.s Hd.s (FD hpre.1)⟩
instance Tv(X Y Q:Rat)(k:Bool)(a b:Pnt)(D E F:Rat)(e f:Pnt):DenI prog 25 [.agg (qM X Y Q k a b),.agg (xJ D E F e f)] (PC (⟨.ar X Y Q k,a,b⟩:Cv)/\PC (⟨.ln D E F,e,f⟩:Cv)/\(⟨.ar X Y Q k,a,b⟩:Cv).s.ok/\(⟨.ln D E F,e,f⟩:Cv).s.ok) (.tup [.c (pL (rC (⟨.ar X Y Q k,a,b⟩:Cv).s (⟨.ln D E F,e,f⟩:Cv).s)),.int .i64 (erS (⟨.ar X Y Q k,a,b⟩:Cv).s (⟨.ln D E F,e,f⟩:Cv).s)]):=⟨λhp=>by
 obtain⟨Hc,Hd,hpre⟩:=hp;have ha:=Hc.p;have hb:=Hc.q;have:RzB a.ax 5000:=⟨ha.ax⟩
 have:RzB a.bx 250:=⟨ha.bx⟩
 have:RzB a.ay 5000:=⟨ha.ay⟩
 have:RzB a.bb 250:=⟨ha.bb⟩
 have:RzB a.c 5000:=⟨ha.c⟩
 have:RzB b.ax 5000:=⟨hb.ax⟩
 have:RzB b.bx 250:=⟨hb.bx⟩
 have:RzB b.ay 5000:=⟨hb.ay⟩
 have:RzB b.bb 250:=⟨hb.bb⟩
 have:RzB b.c 5000:=⟨hb.c⟩
 have:RzB X 100:=⟨Hc.ar.1⟩
 have:RzB Y 100:=⟨Hc.ar.2.1⟩
 have:RzB Q 400:=⟨Hc.ar.2.2⟩
 have he:=Hd.p;have hf:=Hd.q;have:RzB e.ax 5000:=⟨he.ax⟩
 have:RzB e.bx 250:=⟨he.bx⟩
 have:RzB e.ay 5000:=⟨he.ay⟩
 have:RzB e.bb 250:=⟨he.bb⟩
 have:RzB e.c 5000:=⟨he.c⟩
 have:RzB f.ax 5000:=⟨hf.ax⟩
 have:RzB f.bx 250:=⟨hf.bx⟩
 have:RzB f.ay 5000:=⟨hf.ay⟩
 have:RzB f.bb 250:=⟨hf.bb⟩
 have:RzB f.c 5000:=⟨hf.c⟩
 have:RzB D 40:=⟨Hd.ln.1⟩
 have:RzB E 40:=⟨Hd.ln.2.1⟩
 have:RzB F 100:=⟨Hd.ln.2.2⟩
 all_goals refine aS func25 rfl ?_
 all_goals(repeat'((try(conv=>whnf));first
  |refine ak ?_ ?_|(with_reducible first|refine aN ?_|refine aI ?_)|apply zaa))
 all_goals(try apply zab)
 all_goals(try simp only[bn]at *)
 all_goals first
  |rfl|exact HL.of Hd.s Hc.s (FD hpre.2)⟩
instance Sv(X Y Q:Rat)(k:Bool)(a b:Pnt)(U V W:Rat)(m:Bool)(e f:Pnt):DenI prog 25 [.agg (qM X Y Q k a b),.agg (qM U V W m e f)] (PC (⟨.ar X Y Q k,a,b⟩:Cv)/\PC (⟨.ar U V W m,e,f⟩:Cv)/\(⟨.ar X Y Q k,a,b⟩:Cv).s.ok/\(⟨.ar U V W m,e,f⟩:Cv).s.ok) (.tup [.c (pL (rC (⟨.ar X Y Q k,a,b⟩:Cv).s (⟨.ar U V W m,e,f⟩:Cv).s)),.int .i64 (erS (⟨.ar X Y Q k,a,b⟩:Cv).s (⟨.ar U V W m,e,f⟩:Cv).s)]):=⟨λhp=>by
 obtain⟨Hc,Hd,hpre⟩:=hp;have ha:=Hc.p;have hb:=Hc.q;have:RzB a.ax 5000:=⟨ha.ax⟩
 have:RzB a.bx 250:=⟨ha.bx⟩
 have:RzB a.ay 5000:=⟨ha.ay⟩
 have:RzB a.bb 250:=⟨ha.bb⟩
 have:RzB a.c 5000:=⟨ha.c⟩
 have:RzB b.ax 5000:=⟨hb.ax⟩
 have:RzB b.bx 250:=⟨hb.bx⟩
 have:RzB b.ay 5000:=⟨hb.ay⟩
 have:RzB b.bb 250:=⟨hb.bb⟩
 have:RzB b.c 5000:=⟨hb.c⟩
 have:RzB X 100:=⟨Hc.ar.1⟩
 have:RzB Y 100:=⟨Hc.ar.2.1⟩
 have:RzB Q 400:=⟨Hc.ar.2.2⟩
 have he:=Hd.p;have hf:=Hd.q;have:RzB e.ax 5000:=⟨he.ax⟩
 have:RzB e.bx 250:=⟨he.bx⟩
 have:RzB e.ay 5000:=⟨he.ay⟩
 have:RzB e.bb 250:=⟨he.bb⟩
 have:RzB e.c 5000:=⟨he.c⟩
 have:RzB f.ax 5000:=⟨hf.ax⟩
 have:RzB f.bx 250:=⟨hf.bx⟩
 have:RzB f.ay 5000:=⟨hf.ay⟩
 have:RzB f.bb 250:=⟨hf.bb⟩
 have:RzB f.c 5000:=⟨hf.c⟩
 have:RzB U 100:=⟨Hd.ar.1⟩
 have:RzB V 100:=⟨Hd.ar.2.1⟩
 have:RzB W 400:=⟨Hd.ar.2.2⟩
 all_goals refine aS func25 rfl ?_
 all_goals(repeat'((try(conv=>whnf));first
  |refine ak ?_ ?_|(with_reducible refine aN ?_)|apply zaa))
 all_goals(try apply zab)
 all_goals(try simp only[bn]at *)
 all_goals first
  |rfl|exact⟨Hc.s,Hd.s⟩⟩
instance al9(c d:Cv):DenI prog 25 [.agg (dL c),.agg (dL d)] (PC c/\PC d/\c.s.ok/\d.s.ok) (.tup [.c (pL (rC c.s d.s)),.int .i64 (erS c.s d.s)]):=⟨λhp=>by
 rcases c with⟨⟨_,_,_⟩|⟨_,_,_,_|_⟩,_,_⟩
 all_goals rcases d with⟨⟨_,_,_⟩|⟨_,_,_,_|_⟩,_,_⟩
 all_goals first
 |exact(Uz ..).den hp|exact(Uw ..).den hp|exact(Tv ..).den hp|exact(Sv ..).den hp⟩
end Go.Proofs.YtdpkjhnfklkkjaaGreat
namespace Go.Proofs.YtdpkjhnfklkkjaaGreat
open Go Go.RowKit Go.Sw Go.Proofs.Tryz
set_option maxRecDepth 100000
set_option maxHeartbeats 16000000
set_option synthInstance.maxSize 4000
set_option synthInstance.maxHeartbeats 400000
attribute [instance 3000] abJ adW ad3 TQ TK aaV
instance ahH(a b d e c x y:Rat):DenI prog 290 [Q5 a b d e c,Q2 x y] (rz a<=5000/\rz b<=250/\rz d<=5000/\rz e<=250/\rz c<=5000/\rz x<=100/\rz y<=100/\okP b e c) (Q3 ((a + -x)*(a + -x)+b*b*bC b c+((d + -y)*(d + -y)+e*e*bC e c)) (bH (bH ((a + -x)*b+b*(a + -x)) (bC b c)+bH ((d + -y)*e+e*(d + -y)) (bC e c)) (if bH ((a + -x)*b+b*(a + -x)) (bC b c)=0 then bM ((d + -y)*e+e*(d + -y)) (bC e c) else bM ((a + -x)*b+b*(a + -x)) (bC b c))) (bM (bH ((a + -x)*b+b*(a + -x)) (bC b c)+bH ((d + -y)*e+e*(d + -y)) (bC e c)) (if bH ((a + -x)*b+b*(a + -x)) (bC b c)=0 then bM ((d + -y)*e+e*(d + -y)) (bC e c) else bM ((a + -x)*b+b*(a + -x)) (bC b c)))):=⟨λhp=>by
 obtain⟨q0,q1,q2,q3,q4,q5,q6,hpre⟩:=id hp;have:RzB a 5000:=⟨q0⟩
 have:RzB b 250:=⟨q1⟩
 have:RzB d 5000:=⟨q2⟩
 have:RzB e 250:=⟨q3⟩
 have:RzB c 5000:=⟨q4⟩
 have:RzB x 100:=⟨q5⟩
 have:RzB y 100:=⟨q6⟩
 all_goals refine aS func290 rfl ?_
 all_goals(repeat'((try(conv=>whnf));first
  |refine ak ?_ ?_|refine zac ζ ?_|apply zaa))
 all_goals(try apply zab)
 all_goals first
  |rfl|(refine⟨bF ω,bF ω,bF ω,bF ω,bF ω,bF ω,UO hp.2.2.2.2.2.2.2⟩)|exact zaf⟩
attribute [instance 3000] ahH
instance aek(la lb lc ax bx ay bb c:Rat):DenI prog 245 [Q3 la lb lc,Q5 ax bx ay bb c] (rz la<=40/\rz lb<=40/\rz lc<=100/\rz ax<=5000/\rz bx<=250/\rz ay<=5000/\rz bb<=250/\rz c<=5000/\0<=c) (Q3 (dS (la*ax+lb*ay-lc) (la*bx+lb*bb) c) (dN (la*bx+lb*bb) c) (dP (la*bx+lb*bb) c)):=⟨λhp=>by
 obtain⟨q0,q1,q2,q3,q4,q5,q6,q7,hpre⟩:=id hp;have:RzB la 40:=⟨q0⟩
 have:RzB lb 40:=⟨q1⟩
 have:RzB lc 100:=⟨q2⟩
 have:RzB ax 5000:=⟨q3⟩
 have:RzB bx 250:=⟨q4⟩
 have:RzB ay 5000:=⟨q5⟩
 have:RzB bb 250:=⟨q6⟩
 have:RzB c 5000:=⟨q7⟩
 all_goals refine aS func245 rfl ?_
 all_goals(repeat'((try(conv=>whnf));first
  |refine ak ?_ ?_|refine zac ζ ?_|apply zaa))
 all_goals(try apply zab)
 all_goals first
  |rfl|exact zaf⟩
attribute [instance 3000] aek
instance aaU(la lb lc ax bx ay bb c:Rat):DenI prog 179 [Q3 la lb lc,Q5 ax bx ay bb c] (rz la<=40/\rz lb<=40/\rz lc<=100/\rz ax<=5000/\rz bx<=250/\rz ay<=5000/\rz bb<=250/\rz c<=5000/\okP bx bb c) (.int .i64 (fP (la*ax+lb*ay-lc) (la*bx+lb*bb) c)):=⟨λhp=>by
 obtain⟨q0,q1,q2,q3,q4,q5,q6,q7,hpre⟩:=id hp;have:RzB la 40:=⟨q0⟩
 have:RzB lb 40:=⟨q1⟩
 have:RzB lc 100:=⟨q2⟩
 have:RzB ax 5000:=⟨q3⟩
 have:RzB bx 250:=⟨q4⟩
 have:RzB ay 5000:=⟨q5⟩
 have:RzB bb 250:=⟨q6⟩
 have:RzB c 5000:=⟨q7⟩
 all_goals refine aS func179 rfl ?_
 all_goals(repeat'((try(conv=>whnf));first
  |refine ak ?_ ?_|apply zaa))
 all_goals(try apply zab)
 all_goals first
  |(refine iE (TU hp.2.2.2.2.2.2.2.2 ?_);rintro ⟨z1,z2⟩;rw[z1,z2];grind)|(refine⟨bF ω,bF ω,bF ω,bF ω,bF ω,bF ω,bF ω,bF ω,ae0 hp.2.2.2.2.2.2.2.2⟩)|exact zaf⟩
attribute [instance 3000] aaU
instance afc(X Y Q ax bx ay bb c:Rat):DenI prog 244 [Q3 X Y Q,Q5 ax bx ay bb c] (rz X<=100/\rz Y<=100/\rz Q<=400/\rz ax<=5000/\rz bx<=250/\rz ay<=5000/\rz bb<=250/\rz c<=5000/\okP bx bb c) (Q3 ((ax + -X)*(ax + -X)+bx*bx*bC bx c+((ay + -Y)*(ay + -Y)+bb*bb*bC bb c) + -Q) (bH (bH ((ax + -X)*bx+bx*(ax + -X)) (bC bx c)+bH ((ay + -Y)*bb+bb*(ay + -Y)) (bC bb c)) (if bH ((ax + -X)*bx+bx*(ax + -X)) (bC bx c)=0 then bM ((ay + -Y)*bb+bb*(ay + -Y)) (bC bb c) else bM ((ax + -X)*bx+bx*(ax + -X)) (bC bx c))) (bM (bH ((ax + -X)*bx+bx*(ax + -X)) (bC bx c)+bH ((ay + -Y)*bb+bb*(ay + -Y)) (bC bb c)) (if bH ((ax + -X)*bx+bx*(ax + -X)) (bC bx c)=0 then bM ((ay + -Y)*bb+bb*(ay + -Y)) (bC bb c) else bM ((ax + -X)*bx+bx*(ax + -X)) (bC bx c)))):=⟨λhp=>by
 obtain⟨q0,q1,q2,q3,q4,q5,q6,q7,hpre⟩:=id hp;have:RzB X 100:=⟨q0⟩
 have:RzB Y 100:=⟨q1⟩
 have:RzB Q 400:=⟨q2⟩
 have:RzB ax 5000:=⟨q3⟩
 have:RzB bx 250:=⟨q4⟩
 have:RzB ay 5000:=⟨q5⟩
 have:RzB bb 250:=⟨q6⟩
 have:RzB c 5000:=⟨q7⟩
 all_goals refine aS func244 rfl ?_
 all_goals(repeat'((try(conv=>whnf));first
  |refine ak ?_ ?_|refine zac ζ ?_|apply zaa))
 all_goals(try apply zab)
 all_goals first
  |rfl|(refine⟨bF ω,bF ω,bF ω,bF ω,bF ω,bF ω,bF ω,hp.2.2.2.2.2.2.2.2⟩)|exact zaf⟩
attribute [instance 3000] afc
instance ah4(X Y Q ax bx ay bb c:Rat):DenI prog 178 [Q3 X Y Q,Q5 ax bx ay bb c] (rz X<=100/\rz Y<=100/\rz Q<=400/\rz ax<=5000/\rz bx<=250/\rz ay<=5000/\rz bb<=250/\rz c<=5000/\okP bx bb c) (.int .i64 (-(fP ((ax-X)*(ax-X)+(ay-Y)*(ay-Y)+c*(bx*bx+bb*bb)-Q) ((ax-X)*bx+(ay-Y)*bb+((ax-X)*bx+(ay-Y)*bb)) c))):=⟨λhp=>by
 obtain⟨q0,q1,q2,q3,q4,q5,q6,q7,hpre⟩:=id hp;have:RzB X 100:=⟨q0⟩
 have:RzB Y 100:=⟨q1⟩
 have:RzB Q 400:=⟨q2⟩
 have:RzB ax 5000:=⟨q3⟩
 have:RzB bx 250:=⟨q4⟩
 have:RzB ay 5000:=⟨q5⟩
 have:RzB bb 250:=⟨q6⟩
 have:RzB c 5000:=⟨q7⟩
 all_goals refine aS func178 rfl ?_
 all_goals(repeat'((try(conv=>whnf));first
  |refine ak ?_ ?_|apply zaa))
 all_goals(try apply zab)
 all_goals first
  |(refine agI ?_;rw[Um (u:=ax + -X) (v:=ay + -Y) hp.2.2.2.2.2.2.2.2 rfl rfl rfl rfl rfl rfl];congr 1<;>grind)|(refine⟨bF ω,bF ω,bF ω,bF ω,bF ω,bF ω,bF ω,bF ω,hp.2.2.2.2.2.2.2.2⟩)|exact zaf⟩
attribute [instance 3000] ah4
instance anw(X Y Q:Rat)(p:Pnt):DenI prog 247 [Q3 X Y Q,.agg (aY p)] (rz X<=100/\rz Y<=100/\rz Q<=400/\PB p) (.bool (decide (oG (jl X Y) p=0))):=⟨λhp=>by
 obtain⟨q0,q1,q2,hp⟩:=hp;have:RzB X 100:=⟨q0⟩
 have:RzB Y 100:=⟨q1⟩
 have:RzB Q 400:=⟨q2⟩
 have:RzB p.ax 5000:=⟨hp.ax⟩
 have:RzB p.bx 250:=⟨hp.bx⟩
 have:RzB p.ay 5000:=⟨hp.ay⟩
 have:RzB p.bb 250:=⟨hp.bb⟩
 have:RzB p.c 5000:=⟨hp.c⟩
 all_goals refine aS func247 rfl ?_
 all_goals(repeat'((try(conv=>whnf));first
  |refine ak ?_ ?_|(with_reducible first|refine aN ?_|refine aI ?_|refine aO (λ_=>?_) (λ_=>?_))|refine zac ζ ?_|apply zaa))
 all_goals(try apply zab)
 all_goals first
  |exact bE (alp hp.nn (by with_reducible assumption))|exact bE (alg hp.nn (by with_reducible assumption) (by with_reducible assumption))|exact bE (ako hp.nn (by with_reducible assumption))|exact zaf⟩
end Go.Proofs.YtdpkjhnfklkkjaaGreat
namespace Go.Proofs.YtdpkjhnfklkkjaaGreat
open Go Go.RowKit Go.Sw Go.Proofs.Tryz
set_option maxRecDepth 100000
set_option maxHeartbeats 16000000
set_option synthInstance.maxSize 4000
set_option synthInstance.maxHeartbeats 400000
instance an1(X Y Q:Rat)(p q:Pnt):DenI prog 183 [Q3 X Y Q,.agg (aY p),.agg (aY q)] (rz X<=100/\rz Y<=100/\rz Q<=400/\PB p/\PB q) (.int .i64 (zL (jl X Y) p q)):=⟨λhp=>by
 obtain⟨q0,q1,q2,hp,hq⟩:=hp;have:RzB X 100:=⟨q0⟩
 have:RzB Y 100:=⟨q1⟩
 have:RzB Q 400:=⟨q2⟩
 have:RzB p.ax 5000:=⟨hp.ax⟩
 have:RzB p.bx 250:=⟨hp.bx⟩
 have:RzB p.ay 5000:=⟨hp.ay⟩
 have:RzB p.bb 250:=⟨hp.bb⟩
 have:RzB p.c 5000:=⟨hp.c⟩
 have:RzB q.ax 5000:=⟨hq.ax⟩
 have:RzB q.bx 250:=⟨hq.bx⟩
 have:RzB q.ay 5000:=⟨hq.ay⟩
 have:RzB q.bb 250:=⟨hq.bb⟩
 have:RzB q.c 5000:=⟨hq.c⟩
 have z3:=YI hp.nn hq.nn;unfold cX at z3
 all_goals refine aS func183 rfl ?_
 all_goals(repeat'((try(conv=>whnf));first
  |refine ak ?_ ?_|(with_reducible refine aO (λ_=>?_) (λ_=>?_))|refine zad (λ_=>?_) (λ_=>?_)|refine zac ζ ?_|apply zaa))
 all_goals(try apply zab)
 all_goals first
  |exact iE (amC (by with_reducible assumption) (by with_reducible assumption))|exact iE (amu (by with_reducible assumption) (by with_reducible assumption))|exact iE (aj9 (by with_reducible assumption) (by with_reducible assumption))|(refine iE ?_;rw[bG ω ω,Int.zero_sub];exact al7 (by with_reducible assumption) (by with_reducible assumption))|(refine⟨bF ω,bF ω,bF ω,bF ω,bF ω,bF ω,fD hp.nn,fD hq.nn⟩)|((repeat' apply And.intro)<;>with_reducible assumption)⟩
instance anl(X Y Q:Rat)(r p q:Pnt):DenI prog 103 [Q3 X Y Q,.agg (aY r),.agg (aY p),.agg (aY q)] (rz X<=100/\rz Y<=100/\rz Q<=400/\PB r/\PB p/\PB q) (.int .i64 (VX (jl X Y) r p q)):=⟨λhp=>by
 obtain⟨q0,q1,q2,hr,hp,hq⟩:=hp;have:RzB X 100:=⟨q0⟩
 have:RzB Y 100:=⟨q1⟩
 have:RzB Q 400:=⟨q2⟩
 have:RzB r.ax 5000:=⟨hr.ax⟩
 have:RzB r.bx 250:=⟨hr.bx⟩
 have:RzB r.ay 5000:=⟨hr.ay⟩
 have:RzB r.bb 250:=⟨hr.bb⟩
 have:RzB r.c 5000:=⟨hr.c⟩
 have:RzB p.ax 5000:=⟨hp.ax⟩
 have:RzB p.bx 250:=⟨hp.bx⟩
 have:RzB p.ay 5000:=⟨hp.ay⟩
 have:RzB p.bb 250:=⟨hp.bb⟩
 have:RzB p.c 5000:=⟨hp.c⟩
 have:RzB q.ax 5000:=⟨hq.ax⟩
 have:RzB q.bx 250:=⟨hq.bx⟩
 have:RzB q.ay 5000:=⟨hq.ay⟩
 have:RzB q.bb 250:=⟨hq.bb⟩
 have:RzB q.c 5000:=⟨hq.c⟩
 all_goals refine aS func103 rfl ?_
 all_goals(repeat'((try(conv=>whnf));first
  |refine ak ?_ ?_|(with_reducible refine aO (λ_=>?_) (λ_=>?_))|refine zad (λ_=>?_) (λ_=>?_)|refine zac ζ ?_|apply zaa))
 all_goals(try apply zab)
 all_goals first
  |exact iE (aiP (by with_reducible assumption) (by with_reducible assumption))|exact iE (ag0 (by with_reducible assumption) (by with_reducible assumption))|exact iE (ah9 (by with_reducible assumption))|((repeat' apply And.intro)<;>with_reducible assumption)⟩
instance anq(p:Pnt):DenI prog 105 [.agg (aY p)] (PB p) (.agg (aY (MX p))):=⟨λhp=>by
 have:RzB p.ax 5000:=⟨hp.ax⟩
 have:RzB p.bx 250:=⟨hp.bx⟩
 have:RzB p.ay 5000:=⟨hp.ay⟩
 have:RzB p.bb 250:=⟨hp.bb⟩
 have:RzB p.c 5000:=⟨hp.c⟩
 all_goals refine aS func105 rfl ?_
 all_goals(repeat'((try(conv=>whnf));first
  |refine ak ?_ ?_|refine zac ζ ?_|apply zaa))
 all_goals(try apply zab)
 all_goals first
  |rfl|exact zaf⟩
instance anY(X Y Q:Rat)(a b:Pnt):DenI prog 104 [.agg (qM X Y Q true a b)] (PC (⟨.ar X Y Q true,a,b⟩:Cv)) (.agg (qM (-X) Y Q false (MX a) (MX b))):=⟨λhp=>by
 have Hc:=hp;have ha:=Hc.p;have hb:=Hc.q;have:RzB a.ax 5000:=⟨ha.ax⟩
 have:RzB a.bx 250:=⟨ha.bx⟩
 have:RzB a.ay 5000:=⟨ha.ay⟩
 have:RzB a.bb 250:=⟨ha.bb⟩
 have:RzB a.c 5000:=⟨ha.c⟩
 have:RzB b.ax 5000:=⟨hb.ax⟩
 have:RzB b.bx 250:=⟨hb.bx⟩
 have:RzB b.ay 5000:=⟨hb.ay⟩
 have:RzB b.bb 250:=⟨hb.bb⟩
 have:RzB b.c 5000:=⟨hb.c⟩
 have:RzB X 100:=⟨Hc.ar.1⟩
 have:RzB Y 100:=⟨Hc.ar.2.1⟩
 have:RzB Q 400:=⟨Hc.ar.2.2⟩
 all_goals refine aS func104 rfl ?_
 all_goals(repeat'((try(conv=>whnf));first
  |refine ak ?_ ?_|refine zac ζ ?_|apply zaa))
 all_goals(try apply zab)
 all_goals(try simp only[bn]at *)
 all_goals first
  |rfl|((repeat' apply And.intro)<;>with_reducible assumption)|exact zaf⟩
instance U9(A B C:Rat)(a b:Pnt)(p:Pnt):DenI prog 98 [.agg (xJ A B C a b),.agg (aY p)] (PC (⟨.ln A B C,a,b⟩:Cv)/\yZ p) (.bool (decide ((⟨.ln A B C,a,b⟩:Cv).s.on p=0))):=⟨λhp=>by
 obtain⟨Hc,hpre⟩:=hp;have ha:=Hc.p;have hb:=Hc.q;have:RzB a.ax 5000:=⟨ha.ax⟩
 have:RzB a.bx 250:=⟨ha.bx⟩
 have:RzB a.ay 5000:=⟨ha.ay⟩
 have:RzB a.bb 250:=⟨ha.bb⟩
 have:RzB a.c 5000:=⟨ha.c⟩
 have:RzB b.ax 5000:=⟨hb.ax⟩
 have:RzB b.bx 250:=⟨hb.bx⟩
 have:RzB b.ay 5000:=⟨hb.ay⟩
 have:RzB b.bb 250:=⟨hb.bb⟩
 have:RzB b.c 5000:=⟨hb.c⟩
 have:RzB A 40:=⟨Hc.ln.1⟩
 have:RzB B 40:=⟨Hc.ln.2.1⟩
 have:RzB C 100:=⟨Hc.ln.2.2⟩
 have hp:=hpre.1;have hk:=hpre.2;have:RzB p.ax 5000:=⟨hp.ax⟩
 have:RzB p.bx 250:=⟨hp.bx⟩
 have:RzB p.ay 5000:=⟨hp.ay⟩
 have:RzB p.bb 250:=⟨hp.bb⟩
 have:RzB p.c 5000:=⟨hp.c⟩
 all_goals refine aS func98 rfl ?_
 all_goals(repeat'((try(conv=>whnf));first
  |refine ak ?_ ?_|(with_reducible refine aI ?_)|apply zaa))
 all_goals(try apply zab)
 all_goals(try simp only[bn]at *)
 all_goals first
  |rfl|(refine⟨bF ω,bF ω,bF ω,bF ω,bF ω,bF ω,bF ω,bF ω,hk⟩)⟩
instance WI(X Y Q:Rat)(k:Bool)(a b:Pnt)(p:Pnt):DenI prog 98 [.agg (qM X Y Q k a b),.agg (aY p)] (PC (⟨.ar X Y Q k,a,b⟩:Cv)/\yZ p) (.bool (decide ((⟨.ar X Y Q k,a,b⟩:Cv).s.on p=0))):=⟨λhp=>by
 obtain⟨Hc,hpre⟩:=hp;have ha:=Hc.p;have hb:=Hc.q;have:RzB a.ax 5000:=⟨ha.ax⟩
 have:RzB a.bx 250:=⟨ha.bx⟩
 have:RzB a.ay 5000:=⟨ha.ay⟩
 have:RzB a.bb 250:=⟨ha.bb⟩
 have:RzB a.c 5000:=⟨ha.c⟩
 have:RzB b.ax 5000:=⟨hb.ax⟩
 have:RzB b.bx 250:=⟨hb.bx⟩
 have:RzB b.ay 5000:=⟨hb.ay⟩
 have:RzB b.bb 250:=⟨hb.bb⟩
 have:RzB b.c 5000:=⟨hb.c⟩
 have:RzB X 100:=⟨Hc.ar.1⟩
 have:RzB Y 100:=⟨Hc.ar.2.1⟩
 have:RzB Q 400:=⟨Hc.ar.2.2⟩
 have hp:=hpre.1;have hk:=hpre.2;have:RzB p.ax 5000:=⟨hp.ax⟩
 have:RzB p.bx 250:=⟨hp.bx⟩
 have:RzB p.ay 5000:=⟨hp.ay⟩
 have:RzB p.bb 250:=⟨hp.bb⟩
 have:RzB p.c 5000:=⟨hp.c⟩
 all_goals refine aS func98 rfl ?_
 all_goals(repeat'((try(conv=>whnf));first
  |refine ak ?_ ?_|(with_reducible refine aN ?_)|apply zaa))
 all_goals(try apply zab)
 all_goals(try simp only[bn]at *)
 all_goals first
  |(refine bE ?_;rw[decide_eq_decide,Int.neg_eq_zero];exact Iff.rfl)|(refine⟨bF ω,bF ω,bF ω,bF ω,bF ω,bF ω,bF ω,bF ω,hk⟩)⟩
instance amB(c:Cv)(p:Pnt):DenI prog 98 [.agg (dL c),.agg (aY p)] (PC c/\yZ p) (.bool (decide (c.s.on p=0))):=⟨λhp=>by
 rcases c with⟨⟨_,_,_⟩|⟨_,_,_,_|_⟩,_,_⟩
 all_goals first
 |exact(U9 ..).den hp|exact(WI ..).den hp⟩
instance ach(A B C:Rat)(a b:Pnt)(p q:Pnt):DenI prog 49 [.agg (xJ A B C a b),.agg (aY p),.agg (aY q)] (PC (⟨.ln A B C,a,b⟩:Cv)/\PB p/\PB q) (.int .i64 ((⟨.ln A B C,a,b⟩:Cv).od p q)):=⟨λhp=>by
 obtain⟨Hc,hp,hq⟩:=hp;have ha:=Hc.p;have hb:=Hc.q;have:RzB a.ax 5000:=⟨ha.ax⟩
 have:RzB a.bx 250:=⟨ha.bx⟩
 have:RzB a.ay 5000:=⟨ha.ay⟩
 have:RzB a.bb 250:=⟨ha.bb⟩
 have:RzB a.c 5000:=⟨ha.c⟩
 have:RzB b.ax 5000:=⟨hb.ax⟩
 have:RzB b.bx 250:=⟨hb.bx⟩
 have:RzB b.ay 5000:=⟨hb.ay⟩
 have:RzB b.bb 250:=⟨hb.bb⟩
 have:RzB b.c 5000:=⟨hb.c⟩
 have:RzB A 40:=⟨Hc.ln.1⟩
 have:RzB B 40:=⟨Hc.ln.2.1⟩
 have:RzB C 100:=⟨Hc.ln.2.2⟩
 have:RzB p.ax 5000:=⟨hp.ax⟩
 have:RzB p.bx 250:=⟨hp.bx⟩
 have:RzB p.ay 5000:=⟨hp.ay⟩
 have:RzB p.bb 250:=⟨hp.bb⟩
 have:RzB p.c 5000:=⟨hp.c⟩
 have:RzB q.ax 5000:=⟨hq.ax⟩
 have:RzB q.bx 250:=⟨hq.bx⟩
 have:RzB q.ay 5000:=⟨hq.ay⟩
 have:RzB q.bb 250:=⟨hq.bb⟩
 have:RzB q.c 5000:=⟨hq.c⟩
 have z1:=Rn hp.nn hq.nn
 all_goals refine aS func49 rfl ?_
 all_goals(repeat'((try(conv=>whnf));first
  |refine ak ?_ ?_|(with_reducible refine aO (λ_=>?_) (λ_=>?_))|refine zad (λ_=>?_) (λ_=>?_)|apply zaa))
 all_goals(try apply zab)
 all_goals(try simp only[bn]at *)
 all_goals first
  |(refine iE ?_;show _=(if 0<kH a b then -(kH p q)else kH p q);rw[if_pos (by with_reducible assumption)];rw[bG ω ω];omega)|(refine iE ?_;show _=(if 0<kH a b then -(kH p q)else kH p q);rw[if_neg (by with_reducible assumption)])|((repeat' apply And.intro)<;>with_reducible assumption)|(exfalso;simp_all;done)⟩
instance aaZ(X Y Q:Rat)(a b:Pnt)(p q:Pnt):DenI prog 49 [.agg (qM X Y Q false a b),.agg (aY p),.agg (aY q)] (PC (⟨.ar X Y Q false,a,b⟩:Cv)/\PB p/\PB q) (.int .i64 ((⟨.ar X Y Q false,a,b⟩:Cv).od p q)):=⟨λhp=>by
 obtain⟨Hc,hp,hq⟩:=hp;have ha:=Hc.p;have hb:=Hc.q;have:RzB a.ax 5000:=⟨ha.ax⟩
 have:RzB a.bx 250:=⟨ha.bx⟩
 have:RzB a.ay 5000:=⟨ha.ay⟩
 have:RzB a.bb 250:=⟨ha.bb⟩
 have:RzB a.c 5000:=⟨ha.c⟩
 have:RzB b.ax 5000:=⟨hb.ax⟩
 have:RzB b.bx 250:=⟨hb.bx⟩
 have:RzB b.ay 5000:=⟨hb.ay⟩
 have:RzB b.bb 250:=⟨hb.bb⟩
 have:RzB b.c 5000:=⟨hb.c⟩
 have:RzB X 100:=⟨Hc.ar.1⟩
 have:RzB Y 100:=⟨Hc.ar.2.1⟩
 have:RzB Q 400:=⟨Hc.ar.2.2⟩
 have:RzB p.ax 5000:=⟨hp.ax⟩
 have:RzB p.bx 250:=⟨hp.bx⟩
 have:RzB p.ay 5000:=⟨hp.ay⟩
 have:RzB p.bb 250:=⟨hp.bb⟩
 have:RzB p.c 5000:=⟨hp.c⟩
 have:RzB q.ax 5000:=⟨hq.ax⟩
 have:RzB q.bx 250:=⟨hq.bx⟩
 have:RzB q.ay 5000:=⟨hq.ay⟩
 have:RzB q.bb 250:=⟨hq.bb⟩
 have:RzB q.c 5000:=⟨hq.c⟩
 all_goals refine aS func49 rfl ?_
 all_goals(repeat'((try(conv=>whnf));first
  |refine ak ?_ ?_|(with_reducible refine aO (λ_=>?_) (λ_=>?_))|refine zad (λ_=>?_) (λ_=>?_)|apply zaa))
 all_goals(try apply zab)
 all_goals(try simp only[bn]at *)
 all_goals first
  |rfl|exact⟨Hc.ar.1,Hc.ar.2.1,Hc.ar.2.2,ha,hp,hq⟩|((repeat' apply And.intro)<;>with_reducible assumption)|(exfalso;simp_all;done)⟩
instance acy(X Y Q:Rat)(a b:Pnt)(p q:Pnt):DenI prog 49 [.agg (qM X Y Q true a b),.agg (aY p),.agg (aY q)] (PC (⟨.ar X Y Q true,a,b⟩:Cv)/\PB p/\PB q) (.int .i64 ((⟨.ar X Y Q true,a,b⟩:Cv).od p q)):=⟨λhp=>by
 obtain⟨Hc,hp,hq⟩:=hp;have ha:=Hc.p;have hb:=Hc.q;have:RzB a.ax 5000:=⟨ha.ax⟩
 have:RzB a.bx 250:=⟨ha.bx⟩
 have:RzB a.ay 5000:=⟨ha.ay⟩
 have:RzB a.bb 250:=⟨ha.bb⟩
 have:RzB a.c 5000:=⟨ha.c⟩
 have:RzB b.ax 5000:=⟨hb.ax⟩
 have:RzB b.bx 250:=⟨hb.bx⟩
 have:RzB b.ay 5000:=⟨hb.ay⟩
 have:RzB b.bb 250:=⟨hb.bb⟩
 have:RzB b.c 5000:=⟨hb.c⟩
 have:RzB X 100:=⟨Hc.ar.1⟩
 have:RzB Y 100:=⟨Hc.ar.2.1⟩
 have:RzB Q 400:=⟨Hc.ar.2.2⟩
 have:RzB p.ax 5000:=⟨hp.ax⟩
 have:RzB p.bx 250:=⟨hp.bx⟩
 have:RzB p.ay 5000:=⟨hp.ay⟩
 have:RzB p.bb 250:=⟨hp.bb⟩
 have:RzB p.c 5000:=⟨hp.c⟩
 have:RzB q.ax 5000:=⟨hq.ax⟩
 have:RzB q.bx 250:=⟨hq.bx⟩
 have:RzB q.ay 5000:=⟨hq.ay⟩
 have:RzB q.bb 250:=⟨hq.bb⟩
 have:RzB q.c 5000:=⟨hq.c⟩
 all_goals refine aS func49 rfl ?_
 all_goals(repeat'((try(conv=>whnf));first
  |refine ak ?_ ?_|(with_reducible refine aO (λ_=>?_) (λ_=>?_))|refine zad (λ_=>?_) (λ_=>?_)|refine zac ζ ?_|apply zaa))
 all_goals(try apply zab)
 all_goals(try simp only[bn]at *)
 all_goals first
  |rfl|exact⟨by rw[jK];exact Hc.ar.1,Hc.ar.2.1,Hc.ar.2.2,X4 ha,X4 hp,X4 hq⟩|((repeat' apply And.intro)<;>with_reducible assumption)|exact zaf|(exfalso;simp_all;done)⟩
instance anm(c:Cv)(p q:Pnt):DenI prog 49 [.agg (dL c),.agg (aY p),.agg (aY q)] (PC c/\PB p/\PB q) (.int .i64 (c.od p q)):=⟨λhp=>by
 rcases c with⟨⟨_,_,_⟩|⟨_,_,_,_|_⟩,_,_⟩
 all_goals first
 |exact(ach ..).den hp|exact(acy ..).den hp|exact(aaZ ..).den hp⟩
instance amS(c:Cv)(p:Pnt):DenI prog 45 [.agg (dL c),.agg (aY p)] (PC c/\yZ p) (.bool (c.onR p)):=⟨λhp=>by
 obtain⟨Hc,hp⟩:=hp
 all_goals refine aS func45 rfl ?_
 all_goals(repeat'((try(conv=>whnf));first
  |refine ak ?_ ?_|(with_reducible first|refine aN ?_|refine aI ?_|refine aO (λ_=>?_) (λ_=>?_))|apply zaa))
 all_goals(try apply zab)
 all_goals first
  |exact⟨Hc,hp⟩|exact⟨Hc,Hc.p,hp.1⟩|exact⟨Hc,hp.1,Hc.q⟩|exact bE (ah8 (by with_reducible assumption))|exact bE (agJ (by with_reducible assumption) (by with_reducible assumption))|exact bE (agS (by with_reducible assumption) (by with_reducible assumption))⟩
theorem agC{A B C X Y Q:Rat}(h:Az A B C X Y Q<0):aW [AV.c (.sl 0 [])]=AV.c (pL (Hg A B C X Y Q)):=by rw[<-agT h];rfl
theorem ahN{A B C X Y Q:Rat}(h:Az A B C X Y Q=0):aW [AV.c (.sl 20 [aY (jl (RU A B C X Y) (SY A B C X Y))])]=AV.c (pL (Hg A B C X Y Q)):=by rw[<-ahk h];rfl
theorem agK{A B C X Y Q:Rat}(h:¬Az A B C X Y Q<0)(h2:¬Az A B C X Y Q=0){p q:Pnt}(hp:p=nZ (RU A B C X Y) (-(B/wY A B)) (SY A B C X Y) (-(-A/wY A B)) (Az A B C X Y Q))(hq:q=nZ (RU A B C X Y) (B/wY A B) (SY A B C X Y) (-A/wY A B) (Az A B C X Y Q))(hg:0<kH p q):aW [AV.c (.sl 20 [aY q,aY p])]=AV.c (pL (Hg A B C X Y Q)):=by
 rw[<-ac2 h h2,<-hp,<-hq];unfold SQ;rw[if_pos hg];rfl
theorem af8{A B C X Y Q:Rat}(h:¬Az A B C X Y Q<0)(h2:¬Az A B C X Y Q=0){p q:Pnt}(hp:p=nZ (RU A B C X Y) (-(B/wY A B)) (SY A B C X Y) (-(-A/wY A B)) (Az A B C X Y Q))(hq:q=nZ (RU A B C X Y) (B/wY A B) (SY A B C X Y) (-A/wY A B) (Az A B C X Y Q))(hg:¬0<kH p q):aW [AV.c (.sl 20 [aY p,aY q])]=AV.c (pL (Hg A B C X Y Q)):=by
 rw[<-ac2 h h2,<-hp,<-hq];unfold SQ;rw[if_neg hg];rfl
instance U4(A B C:Rat)(a b:Pnt)(D E F:Rat)(e f:Pnt):DenI prog 7 [.agg (xJ A B C a b),.agg (xJ D E F e f)] (PC (⟨.ln A B C,a,b⟩:Cv)/\PC (⟨.ln D E F,e,f⟩:Cv)) (.bool ((⟨.ln A B C,a,b⟩:Cv).s.same (⟨.ln D E F,e,f⟩:Cv).s)):=⟨λhp=>by
 obtain⟨Hc,Hd⟩:=hp;have ha:=Hc.p;have hb:=Hc.q;have:RzB a.ax 5000:=⟨ha.ax⟩
 have:RzB a.bx 250:=⟨ha.bx⟩
 have:RzB a.ay 5000:=⟨ha.ay⟩
 have:RzB a.bb 250:=⟨ha.bb⟩
 have:RzB a.c 5000:=⟨ha.c⟩
 have:RzB b.ax 5000:=⟨hb.ax⟩
 have:RzB b.bx 250:=⟨hb.bx⟩
 have:RzB b.ay 5000:=⟨hb.ay⟩
 have:RzB b.bb 250:=⟨hb.bb⟩
 have:RzB b.c 5000:=⟨hb.c⟩
 have:RzB A 40:=⟨Hc.ln.1⟩
 have:RzB B 40:=⟨Hc.ln.2.1⟩
 have:RzB C 100:=⟨Hc.ln.2.2⟩
 have he:=Hd.p;have hf:=Hd.q;have:RzB e.ax 5000:=⟨he.ax⟩
 have:RzB e.bx 250:=⟨he.bx⟩
 have:RzB e.ay 5000:=⟨he.ay⟩
 have:RzB e.bb 250:=⟨he.bb⟩
 have:RzB e.c 5000:=⟨he.c⟩
 have:RzB f.ax 5000:=⟨hf.ax⟩
 have:RzB f.bx 250:=⟨hf.bx⟩
 have:RzB f.ay 5000:=⟨hf.ay⟩
 have:RzB f.bb 250:=⟨hf.bb⟩
 have:RzB f.c 5000:=⟨hf.c⟩
 have:RzB D 40:=⟨Hd.ln.1⟩
 have:RzB E 40:=⟨Hd.ln.2.1⟩
 have:RzB F 100:=⟨Hd.ln.2.2⟩
 all_goals refine aS func7 rfl ?_
 all_goals(repeat'((try(conv=>whnf));first
  |refine ak ?_ ?_|(with_reducible refine aI ?_)|refine zad (λ_=>?_) (λ_=>?_)|apply zaa))
 all_goals(try apply zab)
 all_goals(try simp only[bn]at *)
 all_goals first
  |exact zas|exact zaf|(exfalso;simp_all;done)⟩
instance Zd(A B C:Rat)(a b:Pnt)(U V W:Rat)(m:Bool)(e f:Pnt):DenI prog 7 [.agg (xJ A B C a b),.agg (qM U V W m e f)] (PC (⟨.ln A B C,a,b⟩:Cv)/\PC (⟨.ar U V W m,e,f⟩:Cv)) (.bool ((⟨.ln A B C,a,b⟩:Cv).s.same (⟨.ar U V W m,e,f⟩:Cv).s)):=⟨λhp=>by
 obtain⟨Hc,Hd⟩:=hp;have ha:=Hc.p;have hb:=Hc.q;have:RzB a.ax 5000:=⟨ha.ax⟩
 have:RzB a.bx 250:=⟨ha.bx⟩
 have:RzB a.ay 5000:=⟨ha.ay⟩
 have:RzB a.bb 250:=⟨ha.bb⟩
 have:RzB a.c 5000:=⟨ha.c⟩
 have:RzB b.ax 5000:=⟨hb.ax⟩
 have:RzB b.bx 250:=⟨hb.bx⟩
 have:RzB b.ay 5000:=⟨hb.ay⟩
 have:RzB b.bb 250:=⟨hb.bb⟩
 have:RzB b.c 5000:=⟨hb.c⟩
 have:RzB A 40:=⟨Hc.ln.1⟩
 have:RzB B 40:=⟨Hc.ln.2.1⟩
 have:RzB C 100:=⟨Hc.ln.2.2⟩
 have he:=Hd.p;have hf:=Hd.q;have:RzB e.ax 5000:=⟨he.ax⟩
 have:RzB e.bx 250:=⟨he.bx⟩
 have:RzB e.ay 5000:=⟨he.ay⟩
 have:RzB e.bb 250:=⟨he.bb⟩
 have:RzB e.c 5000:=⟨he.c⟩
 have:RzB f.ax 5000:=⟨hf.ax⟩
 have:RzB f.bx 250:=⟨hf.bx⟩
 have:RzB f.ay 5000:=⟨hf.ay⟩
 have:RzB f.bb 250:=⟨hf.bb⟩
 have:RzB f.c 5000:=⟨hf.c⟩
 have:RzB U 100:=⟨Hd.ar.1⟩
 have:RzB V 100:=⟨Hd.ar.2.1⟩
 have:RzB W 400:=⟨Hd.ar.2.2⟩
 all_goals refine aS func7 rfl ?_
 all_goals(repeat'((try(conv=>whnf));first
  |(with_reducible refine aI ?_)|refine zad (λ_=>?_) (λ_=>?_)|apply zaa))
 all_goals(try simp only[bn]at *)
 all_goals first
  |rfl|(exfalso;simp_all;done)⟩
instance Xn(X Y Q:Rat)(k:Bool)(a b:Pnt)(D E F:Rat)(e f:Pnt):DenI prog 7 [.agg (qM X Y Q k a b),.agg (xJ D E F e f)] (PC (⟨.ar X Y Q k,a,b⟩:Cv)/\PC (⟨.ln D E F,e,f⟩:Cv)) (.bool ((⟨.ar X Y Q k,a,b⟩:Cv).s.same (⟨.ln D E F,e,f⟩:Cv).s)):=⟨λhp=>by
 obtain⟨Hc,Hd⟩:=hp;have ha:=Hc.p;have hb:=Hc.q;have:RzB a.ax 5000:=⟨ha.ax⟩
 have:RzB a.bx 250:=⟨ha.bx⟩
 have:RzB a.ay 5000:=⟨ha.ay⟩
 have:RzB a.bb 250:=⟨ha.bb⟩
 have:RzB a.c 5000:=⟨ha.c⟩
 have:RzB b.ax 5000:=⟨hb.ax⟩
 have:RzB b.bx 250:=⟨hb.bx⟩
 have:RzB b.ay 5000:=⟨hb.ay⟩
 have:RzB b.bb 250:=⟨hb.bb⟩
 have:RzB b.c 5000:=⟨hb.c⟩
 have:RzB X 100:=⟨Hc.ar.1⟩
 have:RzB Y 100:=⟨Hc.ar.2.1⟩
 have:RzB Q 400:=⟨Hc.ar.2.2⟩
 have he:=Hd.p;have hf:=Hd.q;have:RzB e.ax 5000:=⟨he.ax⟩
 have:RzB e.bx 250:=⟨he.bx⟩
 have:RzB e.ay 5000:=⟨he.ay⟩
 have:RzB e.bb 250:=⟨he.bb⟩
 have:RzB e.c 5000:=⟨he.c⟩
 have:RzB f.ax 5000:=⟨hf.ax⟩
 have:RzB f.bx 250:=⟨hf.bx⟩
 have:RzB f.ay 5000:=⟨hf.ay⟩
 have:RzB f.bb 250:=⟨hf.bb⟩
 have:RzB f.c 5000:=⟨hf.c⟩
 have:RzB D 40:=⟨Hd.ln.1⟩
 have:RzB E 40:=⟨Hd.ln.2.1⟩
 have:RzB F 100:=⟨Hd.ln.2.2⟩
 all_goals refine aS func7 rfl ?_
 all_goals(repeat'((try(conv=>whnf));first
  |(with_reducible refine aN ?_)|refine zad (λ_=>?_) (λ_=>?_)|apply zaa))
 all_goals(try simp only[bn]at *)
 all_goals first
  |rfl|(exfalso;simp_all;done)⟩
instance X9(X Y Q:Rat)(k:Bool)(a b:Pnt)(U V W:Rat)(m:Bool)(e f:Pnt):DenI prog 7 [.agg (qM X Y Q k a b),.agg (qM U V W m e f)] (PC (⟨.ar X Y Q k,a,b⟩:Cv)/\PC (⟨.ar U V W m,e,f⟩:Cv)) (.bool ((⟨.ar X Y Q k,a,b⟩:Cv).s.same (⟨.ar U V W m,e,f⟩:Cv).s)):=⟨λhp=>by
 obtain⟨Hc,Hd⟩:=hp;have ha:=Hc.p;have hb:=Hc.q;have:RzB a.ax 5000:=⟨ha.ax⟩
 have:RzB a.bx 250:=⟨ha.bx⟩
 have:RzB a.ay 5000:=⟨ha.ay⟩
 have:RzB a.bb 250:=⟨ha.bb⟩
 have:RzB a.c 5000:=⟨ha.c⟩
 have:RzB b.ax 5000:=⟨hb.ax⟩
 have:RzB b.bx 250:=⟨hb.bx⟩
 have:RzB b.ay 5000:=⟨hb.ay⟩
 have:RzB b.bb 250:=⟨hb.bb⟩
 have:RzB b.c 5000:=⟨hb.c⟩
 have:RzB X 100:=⟨Hc.ar.1⟩
 have:RzB Y 100:=⟨Hc.ar.2.1⟩
 have:RzB Q 400:=⟨Hc.ar.2.2⟩
 have he:=Hd.p;have hf:=Hd.q;have:RzB e.ax 5000:=⟨he.ax⟩
 have:RzB e.bx 250:=⟨he.bx⟩
 have:RzB e.ay 5000:=⟨he.ay⟩
 have:RzB e.bb 250:=⟨he.bb⟩
 have:RzB e.c 5000:=⟨he.c⟩
 have:RzB f.ax 5000:=⟨hf.ax⟩
 have:RzB f.bx 250:=⟨hf.bx⟩
 have:RzB f.ay 5000:=⟨hf.ay⟩
 have:RzB f.bb 250:=⟨hf.bb⟩
 have:RzB f.c 5000:=⟨hf.c⟩
 have:RzB U 100:=⟨Hd.ar.1⟩
 have:RzB V 100:=⟨Hd.ar.2.1⟩
 have:RzB W 400:=⟨Hd.ar.2.2⟩
 all_goals refine aS func7 rfl ?_
 all_goals(repeat'((try(conv=>whnf));first
  |refine ak ?_ ?_|(with_reducible refine aN ?_)|refine zad (λ_=>?_) (λ_=>?_)|apply zaa))
 all_goals(try apply zab)
 all_goals(try simp only[bn]at *)
 all_goals first
  |rfl|exact zaf|(exfalso;simp_all;done)⟩
instance anO(c d:Cv):DenI prog 7 [.agg (dL c),.agg (dL d)] (PC c/\PC d) (.bool (c.s.same d.s)):=⟨λhp=>by
 rcases c with⟨⟨_,_,_⟩|⟨_,_,_,_|_⟩,_,_⟩
 all_goals rcases d with⟨⟨_,_,_⟩|⟨_,_,_,_|_⟩,_,_⟩
 all_goals first
 |exact(U4 ..).den hp|exact(Zd ..).den hp|exact(Xn ..).den hp|exact(X9 ..).den hp⟩
instance alL(a b:Rat):DenI prog 241 [R a,R b] (rz a<=4000000/\rz b<=4000000) (R (a+b)):=⟨λhp=>by
 have:RzB a 4000000:=⟨hp.1⟩
 have:RzB b 4000000:=⟨hp.2⟩
 all_goals refine aS func241 rfl ?_
 all_goals(repeat'((try(conv=>whnf));first
  |refine ak ?_ ?_|apply zaa))
 all_goals(try apply zab)
 all_goals first
  |rfl|exact zaf⟩
instance alW(a b:Rat):DenI prog 175 [R a,R b] (rz a<=4000000/\rz b<=4000000) (R (a-b)):=⟨λhp=>by
 have:RzB a 4000000:=⟨hp.1⟩
 have:RzB b 4000000:=⟨hp.2⟩
 all_goals refine aS func175 rfl ?_
 all_goals(repeat'((try(conv=>whnf));first
  |refine ak ?_ ?_|apply zaa))
 all_goals(try apply zab)
 all_goals first
  |rfl|exact zaf⟩
instance amn(a b:Rat):DenI prog 176 [R a,R b] (rz a<=4000000/\rz b<=4000000) (R (a*b)):=⟨λhp=>by
 have:RzB a 4000000:=⟨hp.1⟩
 have:RzB b 4000000:=⟨hp.2⟩
 all_goals refine aS func176 rfl ?_
 all_goals(repeat'((try(conv=>whnf));first
  |refine ak ?_ ?_|apply zaa))
 all_goals(try apply zab)
 all_goals first
  |rfl|exact zaf⟩
instance ams(a:Rat):DenI prog 163 [R a] (rz a<=4000000) (R (-a)):=⟨λhp=>by
 have:RzB a 4000000:=⟨hp⟩
 all_goals refine aS func163 rfl ?_
 all_goals(repeat'((try(conv=>whnf));first
  |refine ak ?_ ?_|apply zaa))
 all_goals(try apply zab)
 all_goals first
  |rfl|exact zaf⟩
instance ajk(a b:Rat):DenI prog 173 [R a,R b] (rz a<=4000000/\rz b<=4000000/\¬b=0) (R (a / b)):=⟨λhp=>by
 have:RzB a 4000000:=⟨hp.1⟩
 have:RzB b 4000000:=⟨hp.2.1⟩
 have hpre:=hp.2.2
 all_goals refine aS func173 rfl ?_
 all_goals(repeat'((try(conv=>whnf));first
  |refine aQ ?_ (λ_=>?_) (λ_=>?_)|apply zaa))
 all_goals(try apply zab)
 all_goals first
  |rfl|exact zaf|(exfalso;simp_all;done)⟩
instance anT(A B C D E F:Rat):DenI prog 177 [Q3 A B C,Q3 D E F] (rz A<=10000/\rz B<=10000/\rz C<=10000/\rz D<=10000/\rz E<=10000/\rz F<=10000) (R (A*E-D*B)):=⟨λhp=>by
 have:RzB A 10000:=⟨hp.1⟩
 have:RzB B 10000:=⟨hp.2.1⟩
 have:RzB C 10000:=⟨hp.2.2.1⟩
 have:RzB D 10000:=⟨hp.2.2.2.1⟩
 have:RzB E 10000:=⟨hp.2.2.2.2.1⟩
 have:RzB F 10000:=⟨hp.2.2.2.2.2⟩
 all_goals refine aS func177 rfl ?_
 all_goals(repeat'((try(conv=>whnf));first
  |refine ak ?_ ?_|refine zac ζ ?_|apply zaa))
 all_goals(try apply zab)
 all_goals first
  |rfl|exact zaf⟩
instance anJ(A B C:Rat):DenI prog 172 [Q3 A B C] (rz A<=10000/\rz B<=10000/\rz C<=10000) (R (wY A B)):=⟨λhp=>by
 have:RzB A 10000:=⟨hp.1⟩
 have:RzB B 10000:=⟨hp.2.1⟩
 have:RzB C 10000:=⟨hp.2.2⟩
 all_goals refine aS func172 rfl ?_
 all_goals(repeat'((try(conv=>whnf));first
  |refine ak ?_ ?_|refine zac ζ ?_|apply zaa))
 all_goals(try apply zab)
 all_goals first
  |rfl|exact zaf⟩
instance anN(A B C X Y:Rat):DenI prog 174 [Q3 A B C,R X,R Y] (rz A<=10000/\rz B<=10000/\rz C<=10000/\rz X<=10000/\rz Y<=10000) (R (U0 A B C X Y)):=⟨λhp=>by
 have:RzB A 10000:=⟨hp.1⟩
 have:RzB B 10000:=⟨hp.2.1⟩
 have:RzB C 10000:=⟨hp.2.2.1⟩
 have:RzB X 10000:=⟨hp.2.2.2.1⟩
 have:RzB Y 10000:=⟨hp.2.2.2.2⟩
 all_goals refine aS func174 rfl ?_
 all_goals(repeat'((try(conv=>whnf));first
  |refine ak ?_ ?_|refine zac ζ ?_|apply zaa))
 all_goals(try apply zab)
 all_goals first
  |rfl|exact zaf⟩
instance anQ(A B C X Y Q:Rat):DenI prog 171 [Q3 A B C,Q3 X Y Q] (HL A B C X Y Q) (R (Az A B C X Y Q)):=⟨λhp=>by
 obtain⟨Ha,Hb,Hc,Hx,Hy,Hq,Hn⟩:=id hp;have:RzB A 60:=⟨fZ (dM Ha) ψ⟩
 have:RzB B 60:=⟨fZ (dM Hb) ψ⟩
 have:RzB C 400:=⟨fZ (dM Hc) ψ⟩
 have:RzB X 60:=⟨fZ (dM Hx) ψ⟩
 have:RzB Y 60:=⟨fZ (dM Hy) ψ⟩
 have:RzB Q 200:=⟨fZ (dM Hq) ψ⟩
 have:RzB (wY A B) 600:=⟨by unfold wY;exact bF ω⟩
 have:RzB (U0 A B C X Y) 4000:=⟨by unfold U0;exact bF ω⟩
 all_goals refine aS func171 rfl ?_
 all_goals(repeat'((try(conv=>whnf));first
  |refine ak ?_ ?_|refine zac ζ ?_|apply zaa))
 all_goals(try apply zab)
 all_goals first
  |rfl|exact zaf⟩
instance anF(x u y v k:Rat):DenI prog 162 [R x,R u,R y,R v,R k] (rz x<=90000/\rz u<=90000/\rz y<=90000/\rz v<=90000/\rz k<=90000) (.agg (aY (nZ x u y v k))):=⟨λhp=>by
 have:RzB x 90000:=⟨hp.1⟩
 have:RzB u 90000:=⟨hp.2.1⟩
 have:RzB y 90000:=⟨hp.2.2.1⟩
 have:RzB v 90000:=⟨hp.2.2.2.1⟩
 have:RzB k 90000:=⟨hp.2.2.2.2⟩
 all_goals refine aS func162 rfl ?_
 all_goals(repeat'((try(conv=>whnf));first
  |refine ak ?_ ?_|refine aQ ?_ (λ_=>?_) (λ_=>?_)|(with_reducible first|refine aN ?_|refine aI ?_)|refine zac ζ ?_|apply zaa))
 all_goals(try apply zab)
 all_goals first
  |(unfold nZ;rw[if_pos (by with_reducible assumption)];rfl)|(unfold nZ;rw[if_neg (by with_reducible assumption)];rfl)|exact zaf⟩
instance alo(X Y Q U V W:Rat):DenI prog 169 [Q3 X Y Q,Q3 U V W] (rz X<=4000000/\rz Y<=4000000/\rz Q<=4000000/\rz U<=4000000/\rz V<=4000000/\rz W<=4000000) (.bool ((decide (X=U) && decide (Y=V)))):=⟨λhp=>by
 have:RzB X 4000000:=⟨hp.1⟩
 have:RzB Y 4000000:=⟨hp.2.1⟩
 have:RzB Q 4000000:=⟨hp.2.2.1⟩
 have:RzB U 4000000:=⟨hp.2.2.2.1⟩
 have:RzB V 4000000:=⟨hp.2.2.2.2.1⟩
 have:RzB W 4000000:=⟨hp.2.2.2.2.2⟩
 all_goals refine aS func169 rfl ?_
 all_goals(repeat'((try(conv=>whnf));first
  |refine ak ?_ ?_|(with_reducible first|refine aN ?_|refine aI ?_|refine aO (λ_=>?_) (λ_=>?_))|apply zaa))
 all_goals(try apply zab)
 all_goals(try simp only[bn]at *)
 all_goals first
  |exact zah|exact zaf⟩
instance amP(A B C X Y Q:Rat):DenI prog 96 [Q3 A B C,Q3 X Y Q] (HL A B C X Y Q) (.c (pL (Hg A B C X Y Q))):=⟨λhp=>by
 obtain⟨Ha,Hb,Hc,Hx,Hy,Hq,Hn⟩:=id hp;have:RzB A 60:=⟨fZ (dM Ha) ψ⟩
 have:RzB B 60:=⟨fZ (dM Hb) ψ⟩
 have:RzB C 400:=⟨fZ (dM Hc) ψ⟩
 have:RzB X 60:=⟨fZ (dM Hx) ψ⟩
 have:RzB Y 60:=⟨fZ (dM Hy) ψ⟩
 have:RzB Q 200:=⟨fZ (dM Hq) ψ⟩
 have hr:=hp.rm;have:RzB (wY A B) 600:=⟨by unfold wY;exact bF ω⟩
 have:RzB (U0 A B C X Y) 4000:=⟨by unfold U0;exact bF ω⟩
 have:RzB (Az A B C X Y Q) 20000:=⟨by unfold Az;exact bF ω⟩
 all_goals refine aS func96 rfl ?_
 all_goals(repeat'((try(conv=>whnf));first
  |refine aC ?_|refine ak ?_ ?_|(with_reducible refine aO (λ_=>?_) (λ_=>?_))|refine zac ζ ?_|apply zaa))
 all_goals(try apply zab)
 all_goals(try simp only[bn]at *)
 all_goals first
  |exact agC (by with_reducible assumption)|exact ahN (by with_reducible assumption)|exact agK (by with_reducible assumption) (by with_reducible assumption) rfl rfl (by with_reducible assumption)|exact af8 (by with_reducible assumption) (by with_reducible assumption) rfl rfl (by with_reducible assumption)|(refine⟨bF ω,bF ω,Bo hp.n⟩)|exact⟨(uU hr.1 (ni hr.2.2.2.1) hr.2.1 (ni hr.2.2.2.2) hr.2.2.1 (NC ξ ξ)).1,(uU hr.1 hr.2.2.2.1 hr.2.1 hr.2.2.2.2 hr.2.2.1 (NC ξ ξ)).1⟩|exact zaf⟩
instance amU(A B C D E F:Rat):DenI prog 97 [Q3 A B C,Q3 D E F] (rz A<=60/\rz B<=60/\rz C<=400/\rz D<=60/\rz E<=60/\rz F<=400) (.tup [.c (pL (Lc A B C D E F)),.int .i64 (erR A B C D E F)]):=⟨λhp=>by
 obtain⟨q0,q1,q2,q3,q4,q5⟩:=hp;have:RzB A 60:=⟨q0⟩
 have:RzB B 60:=⟨q1⟩
 have:RzB C 400:=⟨q2⟩
 have:RzB D 60:=⟨q3⟩
 have:RzB E 60:=⟨q4⟩
 have:RzB F 400:=⟨q5⟩
 all_goals refine aS func97 rfl ?_
 all_goals(repeat'((try(conv=>whnf));first
  |refine aC ?_|refine ak ?_ ?_|(with_reducible first|refine aN ?_|refine aI ?_|refine aO (λ_=>?_) (λ_=>?_)|refine aP (λ_=>?_) (λ_=>?_))|refine zac ζ ?_|apply zaa))
 all_goals(try apply zab)
 all_goals(try simp only[bn]at *)
 all_goals first
  |(refine qg (XT (by with_reducible assumption)) ?_;unfold erR;rw[if_neg (by with_reducible assumption)];done)|(refine qg (MC (by with_reducible assumption)) ?_;unfold erR;rw[if_pos (by with_reducible assumption),if_pos ⟨by with_reducible assumption,by with_reducible assumption⟩];done)|(refine qg (MC (by with_reducible assumption)) ?_;unfold erR;rw[if_pos (by with_reducible assumption),if_neg (λk=>absurd k.1 (by with_reducible assumption))];done)|(refine qg (MC (by with_reducible assumption)) ?_;unfold erR;rw[if_pos (by with_reducible assumption),if_neg (λk=>absurd k.2 (by with_reducible assumption))];done)|exact zaf⟩
instance alA(X Y Q U V W:Rat):DenI prog 170 [Q3 X Y Q,Q3 U V W] (rz X<=100/\rz Y<=100/\rz Q<=400/\rz U<=100/\rz V<=100/\rz W<=400/\¬(X=U/\Y=V)) (.tup [Q3 (2*(U-X)) (2*(V-Y)) (lI U V W-lI X Y Q),.int .i64 0]):=⟨λhp=>by
 obtain⟨q0,q1,q2,q3,q4,q5,hn⟩:=hp;have:RzB X 100:=⟨q0⟩
 have:RzB Y 100:=⟨q1⟩
 have:RzB Q 400:=⟨q2⟩
 have:RzB U 100:=⟨q3⟩
 have:RzB V 100:=⟨q4⟩
 have:RzB W 400:=⟨q5⟩
 have:RzB ((2:Int):Rat) 4:=⟨by decide +kernel⟩
 all_goals refine aS func170 rfl ?_
 all_goals(repeat'((try(conv=>whnf));first
  |refine ak ?_ ?_|refine zad (λ_=>?_) (λ_=>?_)|refine zac ζ ?_|apply zaa))
 all_goals(try apply zab)
 all_goals first
  |rfl|(exfalso;simp_all;done)|exact zaf|omega⟩
instance anH(X Y Q U V W:Rat):DenI prog 95 [Q3 X Y Q,Q3 U V W] (SB (.ar X Y Q true)/\SB (.ar U V W true)) (.tup [.c (pL (ccR X Y Q U V W)),.int .i64 (erQ X Y Q U V W)]):=⟨λhp=>by
 obtain⟨hc,hd⟩:=hp;have:RzB X 100:=⟨fZ (dM hc.1) ψ⟩
 have:RzB Y 100:=⟨fZ (dM hc.2.1) ψ⟩
 have:RzB Q 400:=⟨fZ (dM hc.2.2) ψ⟩
 have:RzB U 100:=⟨fZ (dM hd.1) ψ⟩
 have:RzB V 100:=⟨fZ (dM hd.2.1) ψ⟩
 have:RzB W 400:=⟨fZ (dM hd.2.2) ψ⟩
 all_goals refine aS func95 rfl ?_
 all_goals(repeat'((try(conv=>whnf));first
  |refine ak ?_ ?_|(with_reducible refine aO (λ_=>?_) (λ_=>?_))|refine zad (λ_=>?_) (λ_=>?_)|apply zaa))
 all_goals(try apply zab)
 all_goals(try simp only[bn]at *)
 all_goals first
  |(rename_i h k;simp only[gX,decide_eq_true_eq]at h;refine qg (acF h.1 h.2) ?_;unfold erQ;rw[if_pos h,if_pos k];done)|(rename_i h k;simp only[gX,decide_eq_true_eq]at h;refine qg (acF h.1 h.2) ?_;unfold erQ;rw[if_pos h,if_neg k];done)|(rename_i h;have h2:¬(X=U/\Y=V):=(λg=>by rw[decide_eq_true g.1,decide_eq_true g.2]at h;cases h);refine qg (ahy h2) ?_;unfold erQ;rw[if_neg h2];done)|exact HL.rad hc hd χ|(refine⟨bF ω,bF ω,bF ω,bF ω,bF ω,bF ω, ?_⟩;simp_all;done)|exact zaf⟩
instance SA(A B C:Rat)(a b:Pnt)(D E F:Rat)(e f:Pnt):DenI prog 44 [.agg (xJ A B C a b),.agg (xJ D E F e f)] (PC (⟨.ln A B C,a,b⟩:Cv)/\PC (⟨.ln D E F,e,f⟩:Cv)/\(⟨.ln A B C,a,b⟩:Cv).s.ok/\(⟨.ln D E F,e,f⟩:Cv).s.ok) (.tup [.c (pL (Aq (⟨.ln A B C,a,b⟩:Cv).s (⟨.ln D E F,e,f⟩:Cv).s)),.int .i64 (erT (⟨.ln A B C,a,b⟩:Cv).s (⟨.ln D E F,e,f⟩:Cv).s)]):=⟨λhp=>by
 obtain⟨Hc,Hd,hpre⟩:=hp;have ha:=Hc.p;have hb:=Hc.q;have:RzB a.ax 5000:=⟨ha.ax⟩
 have:RzB a.bx 250:=⟨ha.bx⟩
 have:RzB a.ay 5000:=⟨ha.ay⟩
 have:RzB a.bb 250:=⟨ha.bb⟩
 have:RzB a.c 5000:=⟨ha.c⟩
 have:RzB b.ax 5000:=⟨hb.ax⟩
 have:RzB b.bx 250:=⟨hb.bx⟩
 have:RzB b.ay 5000:=⟨hb.ay⟩
 have:RzB b.bb 250:=⟨hb.bb⟩
 have:RzB b.c 5000:=⟨hb.c⟩
 have:RzB A 40:=⟨Hc.ln.1⟩
 have:RzB B 40:=⟨Hc.ln.2.1⟩
 have:RzB C 100:=⟨Hc.ln.2.2⟩
 have he:=Hd.p;have hf:=Hd.q;have:RzB e.ax 5000:=⟨he.ax⟩
 have:RzB e.bx 250:=⟨he.bx⟩
 have:RzB e.ay 5000:=⟨he.ay⟩
 have:RzB e.bb 250:=⟨he.bb⟩
 have:RzB e.c 5000:=⟨he.c⟩
 have:RzB f.ax 5000:=⟨hf.ax⟩
 have:RzB f.bx 250:=⟨hf.bx⟩
 have:RzB f.ay 5000:=⟨hf.ay⟩
 have:RzB f.bb 250:=⟨hf.bb⟩
 have:RzB f.c 5000:=⟨hf.c⟩
 have:RzB D 40:=⟨Hd.ln.1⟩
 have:RzB E 40:=⟨Hd.ln.2.1⟩
 have:RzB F 100:=⟨Hd.ln.2.2⟩
 all_goals refine aS func44 rfl ?_
 all_goals(repeat'((try(conv=>whnf));first
  |refine ak ?_ ?_|(with_reducible refine aI ?_)|apply zaa))
 all_goals(try apply zab)
 all_goals(try simp only[bn]at *)
 all_goals first
  |rfl|exact zaf⟩
instance TJ(A B C:Rat)(a b:Pnt)(U V W:Rat)(m:Bool)(e f:Pnt):DenI prog 44 [.agg (xJ A B C a b),.agg (qM U V W m e f)] (PC (⟨.ln A B C,a,b⟩:Cv)/\PC (⟨.ar U V W m,e,f⟩:Cv)/\(⟨.ln A B C,a,b⟩:Cv).s.ok/\(⟨.ar U V W m,e,f⟩:Cv).s.ok) (.tup [.c (pL (Aq (⟨.ln A B C,a,b⟩:Cv).s (⟨.ar U V W m,e,f⟩:Cv).s)),.int .i64 (erT (⟨.ln A B C,a,b⟩:Cv).s (⟨.ar U V W m,e,f⟩:Cv).s)]):=⟨λhp=>by
 obtain⟨Hc,Hd,hpre⟩:=hp;have ha:=Hc.p;have hb:=Hc.q;have:RzB a.ax 5000:=⟨ha.ax⟩
 have:RzB a.bx 250:=⟨ha.bx⟩
 have:RzB a.ay 5000:=⟨ha.ay⟩
 have:RzB a.bb 250:=⟨ha.bb⟩
 have:RzB a.c 5000:=⟨ha.c⟩
 have:RzB b.ax 5000:=⟨hb.ax⟩
 have:RzB b.bx 250:=⟨hb.bx⟩
 have:RzB b.ay 5000:=⟨hb.ay⟩
 have:RzB b.bb 250:=⟨hb.bb⟩
 have:RzB b.c 5000:=⟨hb.c⟩
 have:RzB A 40:=⟨Hc.ln.1⟩
 have:RzB B 40:=⟨Hc.ln.2.1⟩
 have:RzB C 100:=⟨Hc.ln.2.2⟩
 have he:=Hd.p;have hf:=Hd.q;have:RzB e.ax 5000:=⟨he.ax⟩
 have:RzB e.bx 250:=⟨he.bx⟩
 have:RzB e.ay 5000:=⟨he.ay⟩
 have:RzB e.bb 250:=⟨he.bb⟩
 have:RzB e.c 5000:=⟨he.c⟩
 have:RzB f.ax 5000:=⟨hf.ax⟩
 have:RzB f.bx 250:=⟨hf.bx⟩
 have:RzB f.ay 5000:=⟨hf.ay⟩
 have:RzB f.bb 250:=⟨hf.bb⟩
 have:RzB f.c 5000:=⟨hf.c⟩
 have:RzB U 100:=⟨Hd.ar.1⟩
 have:RzB V 100:=⟨Hd.ar.2.1⟩
 have:RzB W 400:=⟨Hd.ar.2.2⟩
 all_goals refine aS func44 rfl ?_
 all_goals(repeat'((try(conv=>whnf));first
  |refine ak ?_ ?_|(with_reducible first|refine aN ?_|refine aI ?_)|apply zaa))
 all_goals(try apply zab)
 all_goals(try simp only[bn]at *)
 all_goals first
  |rfl|exact HL.of Hc.s Hd.s (FD hpre.1)⟩
instance UG(X Y Q:Rat)(k:Bool)(a b:Pnt)(D E F:Rat)(e f:Pnt):DenI prog 44 [.agg (qM X Y Q k a b),.agg (xJ D E F e f)] (PC (⟨.ar X Y Q k,a,b⟩:Cv)/\PC (⟨.ln D E F,e,f⟩:Cv)/\(⟨.ar X Y Q k,a,b⟩:Cv).s.ok/\(⟨.ln D E F,e,f⟩:Cv).s.ok) (.tup [.c (pL (Aq (⟨.ar X Y Q k,a,b⟩:Cv).s (⟨.ln D E F,e,f⟩:Cv).s)),.int .i64 (erT (⟨.ar X Y Q k,a,b⟩:Cv).s (⟨.ln D E F,e,f⟩:Cv).s)]):=⟨λhp=>by
 obtain⟨Hc,Hd,hpre⟩:=hp;have ha:=Hc.p;have hb:=Hc.q;have:RzB a.ax 5000:=⟨ha.ax⟩
 have:RzB a.bx 250:=⟨ha.bx⟩
 have:RzB a.ay 5000:=⟨ha.ay⟩
 have:RzB a.bb 250:=⟨ha.bb⟩
 have:RzB a.c 5000:=⟨ha.c⟩
 have:RzB b.ax 5000:=⟨hb.ax⟩
 have:RzB b.bx 250:=⟨hb.bx⟩
 have:RzB b.ay 5000:=⟨hb.ay⟩
 have:RzB b.bb 250:=⟨hb.bb⟩
 have:RzB b.c 5000:=⟨hb.c⟩
 have:RzB X 100:=⟨Hc.ar.1⟩
 have:RzB Y 100:=⟨Hc.ar.2.1⟩
 have:RzB Q 400:=⟨Hc.ar.2.2⟩
 have he:=Hd.p;have hf:=Hd.q;have:RzB e.ax 5000:=⟨he.ax⟩
 have:RzB e.bx 250:=⟨he.bx⟩
 have:RzB e.ay 5000:=⟨he.ay⟩
 have:RzB e.bb 250:=⟨he.bb⟩
 have:RzB e.c 5000:=⟨he.c⟩
 have:RzB f.ax 5000:=⟨hf.ax⟩
 have:RzB f.bx 250:=⟨hf.bx⟩
 have:RzB f.ay 5000:=⟨hf.ay⟩
 have:RzB f.bb 250:=⟨hf.bb⟩
 have:RzB f.c 5000:=⟨hf.c⟩
 have:RzB D 40:=⟨Hd.ln.1⟩
 have:RzB E 40:=⟨Hd.ln.2.1⟩
 have:RzB F 100:=⟨Hd.ln.2.2⟩
 all_goals refine aS func44 rfl ?_
 all_goals(repeat'((try(conv=>whnf));first
  |refine ak ?_ ?_|(with_reducible first|refine aN ?_|refine aI ?_)|apply zaa))
 all_goals(try apply zab)
 all_goals(try simp only[bn]at *)
 all_goals first
  |rfl|exact HL.of Hd.s Hc.s (FD hpre.2)⟩
instance SS(X Y Q:Rat)(k:Bool)(a b:Pnt)(U V W:Rat)(m:Bool)(e f:Pnt):DenI prog 44 [.agg (qM X Y Q k a b),.agg (qM U V W m e f)] (PC (⟨.ar X Y Q k,a,b⟩:Cv)/\PC (⟨.ar U V W m,e,f⟩:Cv)/\(⟨.ar X Y Q k,a,b⟩:Cv).s.ok/\(⟨.ar U V W m,e,f⟩:Cv).s.ok) (.tup [.c (pL (Aq (⟨.ar X Y Q k,a,b⟩:Cv).s (⟨.ar U V W m,e,f⟩:Cv).s)),.int .i64 (erT (⟨.ar X Y Q k,a,b⟩:Cv).s (⟨.ar U V W m,e,f⟩:Cv).s)]):=⟨λhp=>by
 obtain⟨Hc,Hd,hpre⟩:=hp;have ha:=Hc.p;have hb:=Hc.q;have:RzB a.ax 5000:=⟨ha.ax⟩
 have:RzB a.bx 250:=⟨ha.bx⟩
 have:RzB a.ay 5000:=⟨ha.ay⟩
 have:RzB a.bb 250:=⟨ha.bb⟩
 have:RzB a.c 5000:=⟨ha.c⟩
 have:RzB b.ax 5000:=⟨hb.ax⟩
 have:RzB b.bx 250:=⟨hb.bx⟩
 have:RzB b.ay 5000:=⟨hb.ay⟩
 have:RzB b.bb 250:=⟨hb.bb⟩
 have:RzB b.c 5000:=⟨hb.c⟩
 have:RzB X 100:=⟨Hc.ar.1⟩
 have:RzB Y 100:=⟨Hc.ar.2.1⟩
 have:RzB Q 400:=⟨Hc.ar.2.2⟩
 have he:=Hd.p;have hf:=Hd.q;have:RzB e.ax 5000:=⟨he.ax⟩
 have:RzB e.bx 250:=⟨he.bx⟩
 have:RzB e.ay 5000:=⟨he.ay⟩
 have:RzB e.bb 250:=⟨he.bb⟩
 have:RzB e.c 5000:=⟨he.c⟩
 have:RzB f.ax 5000:=⟨hf.ax⟩
 have:RzB f.bx 250:=⟨hf.bx⟩
 have:RzB f.ay 5000:=⟨hf.ay⟩
 have:RzB f.bb 250:=⟨hf.bb⟩
 have:RzB f.c 5000:=⟨hf.c⟩
 have:RzB U 100:=⟨Hd.ar.1⟩
 have:RzB V 100:=⟨Hd.ar.2.1⟩
 have:RzB W 400:=⟨Hd.ar.2.2⟩
 all_goals refine aS func44 rfl ?_
 all_goals(repeat'((try(conv=>whnf));first
  |refine ak ?_ ?_|(with_reducible refine aN ?_)|apply zaa))
 all_goals(try apply zab)
 all_goals(try simp only[bn]at *)
 all_goals first
  |rfl|exact⟨Hc.s,Hd.s⟩⟩
instance aeD(c d:Cv):DenI prog 44 [.agg (dL c),.agg (dL d)] (PC c/\PC d/\c.s.ok/\d.s.ok) (.tup [.c (pL (Aq c.s d.s)),.int .i64 (erT c.s d.s)]):=⟨λhp=>by
 rcases c with⟨⟨_,_,_⟩|⟨_,_,_,_|_⟩,_,_⟩
 all_goals rcases d with⟨⟨_,_,_⟩|⟨_,_,_,_|_⟩,_,_⟩
 all_goals first
 |exact(SA ..).den hp|exact(TJ ..).den hp|exact(UG ..).den hp|exact(SS ..).den hp⟩
instance anX(X Y Q:Rat):DenI prog 90 [Q3 X Y Q] (rz X<=1000/\rz Y<=1000/\rz Q<=1000) (.tup [.agg (aY (nZ X (-1) Y 0 Q)),.agg (aY (nZ X 1 Y 0 Q))]):=⟨λhp=>by
 have:RzB X 1000:=⟨hp.1⟩
 have:RzB Y 1000:=⟨hp.2.1⟩
 have:RzB Q 1000:=⟨hp.2.2⟩
 have:RzB ((1:Int):Rat) 4:=⟨by decide +kernel⟩
 have:RzB ((0:Int):Rat) 4:=⟨by decide +kernel⟩
 all_goals refine aS func90 rfl ?_
 all_goals(repeat'((try(conv=>whnf));first
  |refine ak ?_ ?_|refine zac ζ ?_|apply zaa))
 all_goals(try apply zab)
 all_goals first
  |rfl|exact zaf|omega⟩
@[reducible] def xK(l:List Cv):Cell:=.sl (szC l) (l.map λc=>dL c)
instance FZ(n:Int)(u:Nat):DenI prog 39 [.int .i8 n,.int .u8 (u:Nat)] ((-128<=n/\n<128)/\u<256) (R (Zy n u)):=⟨λhp=>by
 obtain⟨hn,hu⟩:=hp;have hm:=qx u (show 0<4 by decide)
 all_goals refine aS func39 rfl ?_
 all_goals(repeat'((try(conv=>whnf));first
  |refine ak ?_ ?_|refine aK ?_ ?_|apply zaa))
 all_goals(try apply zab)
 all_goals(try simp(disch:=omega) only[bG,Z4,dm3]at *)
 all_goals first
  |rfl|(constructor<;>(try constructor)<;>omega)|omega⟩
instance al3(a b c d:Rat):DenC prog 42 [Q2 a b,Q2 c d] (rz a<=50/\rz b<=50/\rz c<=50/\rz d<=50) (b-d=0/\c-a=0) (.tup [.agg [.v (.bool false),.v (.bool false),.sl 1 [],.v (.bool false),.sl 1 [],.v (.bool false),.sl 1 [],.v (.bool false),.sl 1 [],.v (.bool false),.sl 1 [],.v (.bool false),.sl 1 [],.v (.bool false),.sl 1 [],.v (.bool false),.sl 1 [],.v (.bool false),.sl 1 [],.v (.bool false),.sl 1 [],.v (.bool false),.sl 1 [],.v (.bool false),.sl 1 [],.v (.bool false),.v (.bool false),.sl 1 [],.v (.bool false),.sl 1 [],.v (.bool false),.sl 1 [],.v (.bool false),.sl 1 [],.v (.bool false),.sl 1 [],.v (.bool false),.sl 1 [],.v (.bool false),.sl 1 [],.v (.bool false),.sl 1 [],.v (.bool false),.sl 1 [],.v (.bool false),.sl 1 [],.v (.bool false),.sl 1 [],.v (.bool false),.sl 1 [],.v (.bool false),.sl 1 [],.v (.bool false),.sl 1 [],.v (.bool false),.sl 1 [],.v (.bool false),.sl 1 [],.v (.bool false),.sl 1 [],.v (.bool false),.sl 1 [],.v (.bool false),.sl 1 [],.v (.bool false),.sl 1 []],.int .i64 6]) (.tup [.agg (xJ (b-d) (c-a) ((b-d)*a+(c-a)*b) (jl a b) (jl c d)),.int .i64 0]):=⟨Ew λhp q e1 e2=>by
 have:RzB a 50:=⟨hp.1⟩
 have:RzB b 50:=⟨hp.2.1⟩
 have:RzB c 50:=⟨hp.2.2.1⟩
 have:RzB d 50:=⟨hp.2.2.2⟩
 all_goals refine aS func42 rfl ?_
 all_goals(repeat'((try(conv=>whnf));first
  |refine ak ?_ ?_|refine aQ ?_ (λ_=>?_) (λ_=>?_)|(with_reducible refine aP (λ_=>?_) (λ_=>?_))|refine zac ζ ?_|apply zaa))
 all_goals(try apply zab)
 all_goals(try simp only[bn]at *)
 all_goals first
  |(exfalso;omega)|exact zai|(rw[e1 ξ];rfl)|(rw[e2 ξ];rfl)|exact zaf⟩
instance ajr(a b c d e f:Rat):DenI prog 93 [Q2 a b,Q2 c d,Q2 e f] (rz a<=1000/\rz b<=1000/\rz c<=1000/\rz d<=1000/\rz e<=1000/\rz f<=1000) (.int .i64 (jJ ((c-a)*(f-b)) ((d-b)*(e-a)))):=⟨λhp=>by
 have:RzB a 1000:=⟨hp.1⟩
 have:RzB b 1000:=⟨hp.2.1⟩
 have:RzB c 1000:=⟨hp.2.2.1⟩
 have:RzB d 1000:=⟨hp.2.2.2.1⟩
 have:RzB e 1000:=⟨hp.2.2.2.2.1⟩
 have:RzB f 1000:=⟨hp.2.2.2.2.2⟩
 all_goals refine aS func93 rfl ?_
 all_goals(repeat'((try(conv=>whnf));first
  |refine ak ?_ ?_|refine zac ζ ?_|apply zaa))
 all_goals(try apply zab)
 all_goals first
  |rfl|exact zaf⟩
instance al8(a b c d e f:Rat):DenC prog 43 [Q2 a b,Q2 c d,Q2 e f] (rz a<=100/\rz b<=100/\rz c<=100/\rz d<=100/\rz e<=100/\rz f<=100) (cD a b c d e f=0) (.tup [.agg [.v (.bool false),.v (.bool false),.sl 1 [],.v (.bool false),.sl 1 [],.v (.bool false),.sl 1 [],.v (.bool false),.sl 1 [],.v (.bool false),.sl 1 [],.v (.bool false),.sl 1 [],.v (.bool false),.sl 1 [],.v (.bool false),.sl 1 [],.v (.bool false),.sl 1 [],.v (.bool false),.sl 1 [],.v (.bool false),.sl 1 [],.v (.bool false),.sl 1 [],.v (.bool false),.v (.bool false),.sl 1 [],.v (.bool false),.sl 1 [],.v (.bool false),.sl 1 [],.v (.bool false),.sl 1 [],.v (.bool false),.sl 1 [],.v (.bool false),.sl 1 [],.v (.bool false),.sl 1 [],.v (.bool false),.sl 1 [],.v (.bool false),.sl 1 [],.v (.bool false),.sl 1 [],.v (.bool false),.sl 1 [],.v (.bool false),.sl 1 [],.v (.bool false),.sl 1 [],.v (.bool false),.sl 1 [],.v (.bool false),.sl 1 [],.v (.bool false),.sl 1 [],.v (.bool false),.sl 1 [],.v (.bool false),.sl 1 [],.v (.bool false),.sl 1 [],.v (.bool false),.sl 1 []],.int .i64 6]) (.tup [.agg (qM (c6X a b c d e f) (c6Y a b c d e f) (c6Q a b c d e f) (!decide (0<cD a b c d e f)) (jl a b) (jl e f)),.int .i64 0]):=⟨Ew λhp q e1 e2=>by
 have:RzB a 100:=⟨hp.1⟩
 have:RzB b 100:=⟨hp.2.1⟩
 have:RzB c 100:=⟨hp.2.2.1⟩
 have:RzB d 100:=⟨hp.2.2.2.1⟩
 have:RzB e 100:=⟨hp.2.2.2.2.1⟩
 have:RzB f 100:=⟨hp.2.2.2.2.2⟩
 all_goals refine aS func43 rfl ?_
 all_goals(repeat'((try(conv=>whnf));first
  |refine ak ?_ ?_|refine aQ ?_ (λ_=>?_) (λ_=>?_)|(with_reducible first|refine aN ?_|refine aI ?_|refine aO (λ_=>?_) (λ_=>?_)|refine aP (λ_=>?_) (λ_=>?_))|refine zac ζ ?_|apply zaa))
 all_goals(try apply zab)
 all_goals(try simp only[bn]at *)
 all_goals first
  |(rw[e1 ξ];rfl)|(exfalso;(with_reducible rename _-_=(0:Rat)=>h0);exact absurd (agv h0) (by with_reducible assumption))|((with_reducible show aW _=_);rw[e2 (by unfold cD;with_reducible assumption),<-cwN (by unfold cD;with_reducible assumption)];rfl)|(rw[e1 (by unfold cD;grind)];rfl)|exact zaf⟩
instance ai4(X Y Q:Rat):DenI prog 41 [Q3 X Y Q] (rz X<=1000/\rz Y<=1000/\rz Q<=1000) (.c (xK (WB X Y Q))):=⟨λhp=>by
 have:RzB X 1000:=⟨hp.1⟩
 have:RzB Y 1000:=⟨hp.2.1⟩
 have:RzB Q 1000:=⟨hp.2.2⟩
 all_goals refine aS func41 rfl ?_
 all_goals(repeat'((try(conv=>whnf));first
  |refine ak ?_ ?_|apply zaa))
 all_goals(try apply zab)
 all_goals first
  |rfl|exact zaf⟩
end Go.Proofs.YtdpkjhnfklkkjaaGreat
