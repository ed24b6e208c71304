/-
  Rules of the abstract run, plain laws, and what functions answer, for the law TopMeetings.
  Conditions: none.
-/
import Derived.Test.YtdpkjhnfklkkjaaGreatM18
set_option linter.all false
namespace Go.Proofs.YtdpkjhnfklkkjaaGreat
open Go Go.RowKit Go.Sw Go.Proofs.Tryz
set_option maxRecDepth 100000
set_option maxHeartbeats 16000000
set_option synthInstance.maxSize 4000
set_option synthInstance.maxHeartbeats 400000
theorem H9{k:Nat}{A B C D E F:Rat}(h:((k%3:Nat):Int)=2)(g:C<=0):aW [AV.c (.sl 0 [])]=AV.c (xK (ED k A B C D E F)):=by unfold ED;rw[if_pos ω,if_pos g];rfl
theorem GR{k:Nat}{A B C D E F:Rat}(h:((k%3:Nat):Int)=2)(g:¬C<=0):aW [AV.c (xK (WB A B C))]=AV.c (xK (ED k A B C D E F)):=by unfold ED;rw[if_pos ω,if_neg g];rfl
theorem Kq{k:Nat}{A B C D E F:Rat}(h:¬((k%3:Nat):Int)=2)(h1:((k%3:Nat):Int)=1)(g:cD A B C D E F=0):aW [AV.c (.sl 0 [])]=AV.c (xK (ED k A B C D E F)):=by unfold ED;rw[if_neg ω,if_pos ω,if_pos g];rfl
theorem KU{k:Nat}{A B C D E F:Rat}(h:¬((k%3:Nat):Int)=2)(h1:((k%3:Nat):Int)=1)(g:¬cD A B C D E F=0):aW [AV.c (.sl 66 [dL (ahr A B C D E F)])]=AV.c (xK (ED k A B C D E F)):=by unfold ED;rw[if_neg ω,if_pos ω,if_neg g];rfl
theorem JF{k:Nat}{A B C D E F:Rat}(h:¬((k%3:Nat):Int)=2)(h1:¬((k%3:Nat):Int)=1)(g:B-D=0/\C-A=0):aW [AV.c (.sl 0 [])]=AV.c (xK (ED k A B C D E F)):=by unfold ED;rw[if_neg ω,if_neg ω,if_pos g];rfl
theorem Kv{k:Nat}{A B C D E F:Rat}(h:¬((k%3:Nat):Int)=2)(h1:¬((k%3:Nat):Int)=1)(g:¬(B-D=0/\C-A=0)):aW [AV.c (.sl 66 [dL (agd A B C D)])]=AV.c (xK (ED k A B C D E F)):=by unfold ED;rw[if_neg ω,if_neg ω,if_neg g];rfl
def RS:Code->Code
 |.seq (.seq _ (.cond _ t _)) _=>t
 |c=>c
def hdC:Code->Code
 |.seq x _=>x
 |c=>c
theorem air{k u:Nat}{a b c d e f:Int}{A B C D E F:Rat}(hk:k<256)(hA:Den prog 39 [.int .i8 a,.int .u8 (u:Nat)] (R A))(hB:Den prog 39 [.int .i8 b,.int .u8 (u:Nat)] (R B))(hC:Den prog 39 [.int .i8 c,.int .u8 (u:Nat)] (R C))(hD:Den prog 39 [.int .i8 d,.int .u8 (u:Nat)] (R D))(hE:Den prog 39 [.int .i8 e,.int .u8 (u:Nat)] (R E))(hF:Den prog 39 [.int .i8 f,.int .u8 (u:Nat)] (R F))(zA:rz A<=2)(zB:rz B<=2)(zC:rz C<=2)(zD:rz D<=2)(zE:rz E<=2)(zF:rz F<=2):nH (Den prog) tab (vY 3 (Tryz.f14.body.getD .skip)) (λz e9 b9=>z=.normal/\SubE [(1,.ptr 1 0),(3,.ptr 3 0),(4,.ptr 4 0)] e9/\SubB [(1,.var [.v (.int .u8 (k:Nat)),.v (.int .u8 (u:Nat)),.v (.int .i8 a),.v (.int .i8 b),.v (.int .i8 c),.v (.int .i8 d),.v (.int .i8 e),.v (.int .i8 f)]),(3,.var [zs A.num,zl A.num,zs A.den,zl A.den,zs B.num,zl B.num,zs B.den,zl B.den]),(4,.var [zs C.num,zl C.num,zs C.den,zl C.den,zs D.num,zl D.num,zs D.den,zl D.den])] b9) (uM 0 [.agg [.v (.int .u8 (k:Nat)),.v (.int .u8 (u:Nat)),.v (.int .i8 a),.v (.int .i8 b),.v (.int .i8 c),.v (.int .i8 d),.v (.int .i8 e),.v (.int .i8 f)]]) []:=by
 have hm:=qx k (show 0<3 by decide);have:RzB A 2:=⟨zA⟩
 have:RzB B 2:=⟨zB⟩
 have:RzB C 2:=⟨zC⟩
 have:RzB D 2:=⟨zD⟩
 have:RzB E 2:=⟨zE⟩
 have:RzB F 2:=⟨zF⟩
 haveI j_A:DenI prog 39 [.int .i8 a,.int .u8 (u:Nat)] True (R A):=⟨λ_=>hA⟩
 haveI j_B:DenI prog 39 [.int .i8 b,.int .u8 (u:Nat)] True (R B):=⟨λ_=>hB⟩
 haveI j_C:DenI prog 39 [.int .i8 c,.int .u8 (u:Nat)] True (R C):=⟨λ_=>hC⟩
 haveI j_D:DenI prog 39 [.int .i8 d,.int .u8 (u:Nat)] True (R D):=⟨λ_=>hD⟩
 haveI j_E:DenI prog 39 [.int .i8 e,.int .u8 (u:Nat)] True (R E):=⟨λ_=>hE⟩
 haveI j_F:DenI prog 39 [.int .i8 f,.int .u8 (u:Nat)] True (R F):=⟨λ_=>hF⟩
 all_goals(repeat'((try(conv=>whnf));first
  |refine aC ?_|refine zac ζ ?_))
 all_goals(try simp(disch:=omega) only[bG,Z4,dm3]at *)
 all_goals first
  |trivial
theorem afB{k u:Nat}{a b c d e f:Int}{A B C D E F:Rat}(hk:k<256)(hA:Den prog 39 [.int .i8 a,.int .u8 (u:Nat)] (R A))(hB:Den prog 39 [.int .i8 b,.int .u8 (u:Nat)] (R B))(hC:Den prog 39 [.int .i8 c,.int .u8 (u:Nat)] (R C))(hD:Den prog 39 [.int .i8 d,.int .u8 (u:Nat)] (R D))(hE:Den prog 39 [.int .i8 e,.int .u8 (u:Nat)] (R E))(hF:Den prog 39 [.int .i8 f,.int .u8 (u:Nat)] (R F))(zA:rz A<=2)(zB:rz B<=2)(zC:rz C<=2)(zD:rz D<=2)(zE:rz E<=2)(zF:rz F<=2)(h2:¬k%3=2):nH (Den prog) tab (vY 1 (mJ 3 (Tryz.f14.body.getD .skip))) (λz e9 b9=>z=.normal/\SubE [(1,.ptr 1 0),(3,.ptr 3 0),(4,.ptr 4 0)] e9/\SubB [(1,.var [.v (.int .u8 (k:Nat)),.v (.int .u8 (u:Nat)),.v (.int .i8 a),.v (.int .i8 b),.v (.int .i8 c),.v (.int .i8 d),.v (.int .i8 e),.v (.int .i8 f)]),(3,.var [zs A.num,zl A.num,zs A.den,zl A.den,zs B.num,zl B.num,zs B.den,zl B.den]),(4,.var [zs C.num,zl C.num,zs C.den,zl C.den,zs D.num,zl D.num,zs D.den,zl D.den])] b9) [(1,.ptr 1 0),(3,.ptr 3 0),(4,.ptr 4 0)] [(1,.var [.v (.int .u8 (k:Nat)),.v (.int .u8 (u:Nat)),.v (.int .i8 a),.v (.int .i8 b),.v (.int .i8 c),.v (.int .i8 d),.v (.int .i8 e),.v (.int .i8 f)]),(3,.var [zs A.num,zl A.num,zs A.den,zl A.den,zs B.num,zl B.num,zs B.den,zl B.den]),(4,.var [zs C.num,zl C.num,zs C.den,zl C.den,zs D.num,zl D.num,zs D.den,zl D.den])]:=by
 have hm:=qx k (show 0<3 by decide);have:RzB A 2:=⟨zA⟩
 have:RzB B 2:=⟨zB⟩
 have:RzB C 2:=⟨zC⟩
 have:RzB D 2:=⟨zD⟩
 have:RzB E 2:=⟨zE⟩
 have:RzB F 2:=⟨zF⟩
 haveI j_A:DenI prog 39 [.int .i8 a,.int .u8 (u:Nat)] True (R A):=⟨λ_=>hA⟩
 haveI j_B:DenI prog 39 [.int .i8 b,.int .u8 (u:Nat)] True (R B):=⟨λ_=>hB⟩
 haveI j_C:DenI prog 39 [.int .i8 c,.int .u8 (u:Nat)] True (R C):=⟨λ_=>hC⟩
 haveI j_D:DenI prog 39 [.int .i8 d,.int .u8 (u:Nat)] True (R D):=⟨λ_=>hD⟩
 haveI j_E:DenI prog 39 [.int .i8 e,.int .u8 (u:Nat)] True (R E):=⟨λ_=>hE⟩
 haveI j_F:DenI prog 39 [.int .i8 f,.int .u8 (u:Nat)] True (R F):=⟨λ_=>hF⟩
 all_goals(repeat'((try(conv=>whnf));first
  |refine aC ?_|refine ak ?_ ?_|(with_reducible refine aO (λ_=>?_) (λ_=>?_))|refine aK ?_ ?_))
 all_goals(try apply zab)
 all_goals(try simp(disch:=omega) only[bG,Z4,dm3]at *)
 all_goals(try simp only[bn]at *)
 all_goals first
  |trivial|omega
theorem ahU{k u:Nat}{a b c d e f:Int}{A B C D E F:Rat}(hk:k<256)(hA:Den prog 39 [.int .i8 a,.int .u8 (u:Nat)] (R A))(hB:Den prog 39 [.int .i8 b,.int .u8 (u:Nat)] (R B))(hC:Den prog 39 [.int .i8 c,.int .u8 (u:Nat)] (R C))(hD:Den prog 39 [.int .i8 d,.int .u8 (u:Nat)] (R D))(hE:Den prog 39 [.int .i8 e,.int .u8 (u:Nat)] (R E))(hF:Den prog 39 [.int .i8 f,.int .u8 (u:Nat)] (R F))(zA:rz A<=2)(zB:rz B<=2)(zC:rz C<=2)(zD:rz D<=2)(zE:rz E<=2)(zF:rz F<=2)(h2:¬k%3=2):nH (Den prog) tab (mJ 4 (Tryz.f14.body.getD .skip)) (Hz tab Tryz.f14 [none] (.c (xK (ED k A B C D E F)))) [(1,.ptr 1 0),(3,.ptr 3 0),(4,.ptr 4 0)] [(1,.var [.v (.int .u8 (k:Nat)),.v (.int .u8 (u:Nat)),.v (.int .i8 a),.v (.int .i8 b),.v (.int .i8 c),.v (.int .i8 d),.v (.int .i8 e),.v (.int .i8 f)]),(3,.var [zs A.num,zl A.num,zs A.den,zl A.den,zs B.num,zl B.num,zs B.den,zl B.den]),(4,.var [zs C.num,zl C.num,zs C.den,zl C.den,zs D.num,zl D.num,zs D.den,zl D.den])]:=by
 have hm:=qx k (show 0<3 by decide);have:RzB A 2:=⟨zA⟩
 have:RzB B 2:=⟨zB⟩
 have:RzB C 2:=⟨zC⟩
 have:RzB D 2:=⟨zD⟩
 have:RzB E 2:=⟨zE⟩
 have:RzB F 2:=⟨zF⟩
 haveI j_A:DenI prog 39 [.int .i8 a,.int .u8 (u:Nat)] True (R A):=⟨λ_=>hA⟩
 haveI j_B:DenI prog 39 [.int .i8 b,.int .u8 (u:Nat)] True (R B):=⟨λ_=>hB⟩
 haveI j_C:DenI prog 39 [.int .i8 c,.int .u8 (u:Nat)] True (R C):=⟨λ_=>hC⟩
 haveI j_D:DenI prog 39 [.int .i8 d,.int .u8 (u:Nat)] True (R D):=⟨λ_=>hD⟩
 haveI j_E:DenI prog 39 [.int .i8 e,.int .u8 (u:Nat)] True (R E):=⟨λ_=>hE⟩
 haveI j_F:DenI prog 39 [.int .i8 f,.int .u8 (u:Nat)] True (R F):=⟨λ_=>hF⟩
 have h2x:¬((k%3:Nat):Int)=2:=ω
 all_goals(repeat'((try(conv=>whnf));first
  |refine aC ?_|refine aQ ?_ (λ_=>?_) (λ_=>?_)|(with_reducible first|refine aO (λ_=>?_) (λ_=>?_)|refine aP (λ_=>?_) (λ_=>?_))|refine aK ?_ ?_|refine zac ζ ?_|apply zaa))
 all_goals(try apply zab)
 all_goals(try simp(disch:=omega) only[bG,Z4,dm3]at *)
 all_goals first
  |trivial|exact Kq (by with_reducible assumption) (by with_reducible assumption) (by with_reducible assumption)|exact KU (by with_reducible assumption) (by with_reducible assumption) (by with_reducible assumption)|exact JF (by with_reducible assumption) (by with_reducible assumption) (by with_reducible assumption)|exact Kv (by with_reducible assumption) (by with_reducible assumption) (by with_reducible assumption)|omega
theorem afG{k u:Nat}{a b c d e f:Int}{A B C D E F:Rat}(hk:k<256)(hA:Den prog 39 [.int .i8 a,.int .u8 (u:Nat)] (R A))(hB:Den prog 39 [.int .i8 b,.int .u8 (u:Nat)] (R B))(hC:Den prog 39 [.int .i8 c,.int .u8 (u:Nat)] (R C))(hD:Den prog 39 [.int .i8 d,.int .u8 (u:Nat)] (R D))(hE:Den prog 39 [.int .i8 e,.int .u8 (u:Nat)] (R E))(hF:Den prog 39 [.int .i8 f,.int .u8 (u:Nat)] (R F))(zA:rz A<=2)(zB:rz B<=2)(zC:rz C<=2)(zD:rz D<=2)(zE:rz E<=2)(zF:rz F<=2)(h2:k%3=2):nH (Den prog) tab (vY 1 (hdC (mJ 3 (Tryz.f14.body.getD .skip)))) (λz e9 b9=>z=.normal/\SubE [(33,.bool true),(1,.ptr 1 0),(3,.ptr 3 0),(4,.ptr 4 0)] e9/\SubB [(1,.var [.v (.int .u8 (k:Nat)),.v (.int .u8 (u:Nat)),.v (.int .i8 a),.v (.int .i8 b),.v (.int .i8 c),.v (.int .i8 d),.v (.int .i8 e),.v (.int .i8 f)]),(3,.var [zs A.num,zl A.num,zs A.den,zl A.den,zs B.num,zl B.num,zs B.den,zl B.den]),(4,.var [zs C.num,zl C.num,zs C.den,zl C.den,zs D.num,zl D.num,zs D.den,zl D.den])] b9) [(1,.ptr 1 0),(3,.ptr 3 0),(4,.ptr 4 0)] [(1,.var [.v (.int .u8 (k:Nat)),.v (.int .u8 (u:Nat)),.v (.int .i8 a),.v (.int .i8 b),.v (.int .i8 c),.v (.int .i8 d),.v (.int .i8 e),.v (.int .i8 f)]),(3,.var [zs A.num,zl A.num,zs A.den,zl A.den,zs B.num,zl B.num,zs B.den,zl B.den]),(4,.var [zs C.num,zl C.num,zs C.den,zl C.den,zs D.num,zl D.num,zs D.den,zl D.den])]:=by
 have hm:=qx k (show 0<3 by decide);have:RzB A 2:=⟨zA⟩
 have:RzB B 2:=⟨zB⟩
 have:RzB C 2:=⟨zC⟩
 have:RzB D 2:=⟨zD⟩
 have:RzB E 2:=⟨zE⟩
 have:RzB F 2:=⟨zF⟩
 haveI j_A:DenI prog 39 [.int .i8 a,.int .u8 (u:Nat)] True (R A):=⟨λ_=>hA⟩
 haveI j_B:DenI prog 39 [.int .i8 b,.int .u8 (u:Nat)] True (R B):=⟨λ_=>hB⟩
 haveI j_C:DenI prog 39 [.int .i8 c,.int .u8 (u:Nat)] True (R C):=⟨λ_=>hC⟩
 haveI j_D:DenI prog 39 [.int .i8 d,.int .u8 (u:Nat)] True (R D):=⟨λ_=>hD⟩
 haveI j_E:DenI prog 39 [.int .i8 e,.int .u8 (u:Nat)] True (R E):=⟨λ_=>hE⟩
 haveI j_F:DenI prog 39 [.int .i8 f,.int .u8 (u:Nat)] True (R F):=⟨λ_=>hF⟩
 all_goals(repeat'((try(conv=>whnf));first
  |refine aK ?_ ?_))
 all_goals(try apply zab)
 all_goals(try simp(disch:=omega) only[bG,Z4,dm3]at *)
 all_goals first
  |trivial|exact⟨rfl,⟨congrArg (λb=>some (AV.bool b)) (decide_eq_true ω),rfl,rfl,rfl,trivial⟩,⟨rfl,rfl,rfl,trivial⟩⟩
theorem ahX{k u:Nat}{a b c d e f:Int}{A B C D E F:Rat}(hk:k<256)(hA:Den prog 39 [.int .i8 a,.int .u8 (u:Nat)] (R A))(hB:Den prog 39 [.int .i8 b,.int .u8 (u:Nat)] (R B))(hC:Den prog 39 [.int .i8 c,.int .u8 (u:Nat)] (R C))(hD:Den prog 39 [.int .i8 d,.int .u8 (u:Nat)] (R D))(hE:Den prog 39 [.int .i8 e,.int .u8 (u:Nat)] (R E))(hF:Den prog 39 [.int .i8 f,.int .u8 (u:Nat)] (R F))(zA:rz A<=2)(zB:rz B<=2)(zC:rz C<=2)(zD:rz D<=2)(zE:rz E<=2)(zF:rz F<=2)(h2:k%3=2):nH (Den prog) tab (vY 1 (RS (mJ 3 (Tryz.f14.body.getD .skip)))) (λz e9 b9=>z=.normal/\SubE [(3,.ptr 3 0),(5,.ptr 5 0)] e9/\SubB [(3,.var [zs A.num,zl A.num,zs A.den,zl A.den,zs B.num,zl B.num,zs B.den,zl B.den]),(5,.var [zs C.num,zl C.num,zs C.den,zl C.den])] b9) [(1,.ptr 1 0),(3,.ptr 3 0),(4,.ptr 4 0)] [(1,.var [.v (.int .u8 (k:Nat)),.v (.int .u8 (u:Nat)),.v (.int .i8 a),.v (.int .i8 b),.v (.int .i8 c),.v (.int .i8 d),.v (.int .i8 e),.v (.int .i8 f)]),(3,.var [zs A.num,zl A.num,zs A.den,zl A.den,zs B.num,zl B.num,zs B.den,zl B.den]),(4,.var [zs C.num,zl C.num,zs C.den,zl C.den,zs D.num,zl D.num,zs D.den,zl D.den])]:=by
 have hm:=qx k (show 0<3 by decide);have:RzB A 2:=⟨zA⟩
 have:RzB B 2:=⟨zB⟩
 have:RzB C 2:=⟨zC⟩
 have:RzB D 2:=⟨zD⟩
 have:RzB E 2:=⟨zE⟩
 have:RzB F 2:=⟨zF⟩
 haveI j_A:DenI prog 39 [.int .i8 a,.int .u8 (u:Nat)] True (R A):=⟨λ_=>hA⟩
 haveI j_B:DenI prog 39 [.int .i8 b,.int .u8 (u:Nat)] True (R B):=⟨λ_=>hB⟩
 haveI j_C:DenI prog 39 [.int .i8 c,.int .u8 (u:Nat)] True (R C):=⟨λ_=>hC⟩
 haveI j_D:DenI prog 39 [.int .i8 d,.int .u8 (u:Nat)] True (R D):=⟨λ_=>hD⟩
 haveI j_E:DenI prog 39 [.int .i8 e,.int .u8 (u:Nat)] True (R E):=⟨λ_=>hE⟩
 haveI j_F:DenI prog 39 [.int .i8 f,.int .u8 (u:Nat)] True (R F):=⟨λ_=>hF⟩
 all_goals(repeat'((try(conv=>whnf));first
  |refine aC ?_))
 all_goals(try((conv=>whnf);(with_reducible refine⟨rfl, ?_⟩)))
 all_goals first
  |trivial
theorem aga{k u:Nat}{a b c d e f:Int}{A B C D E F:Rat}(hk:k<256)(hA:Den prog 39 [.int .i8 a,.int .u8 (u:Nat)] (R A))(hB:Den prog 39 [.int .i8 b,.int .u8 (u:Nat)] (R B))(hC:Den prog 39 [.int .i8 c,.int .u8 (u:Nat)] (R C))(hD:Den prog 39 [.int .i8 d,.int .u8 (u:Nat)] (R D))(hE:Den prog 39 [.int .i8 e,.int .u8 (u:Nat)] (R E))(hF:Den prog 39 [.int .i8 f,.int .u8 (u:Nat)] (R F))(zA:rz A<=2)(zB:rz B<=2)(zC:rz C<=2)(zD:rz D<=2)(zE:rz E<=2)(zF:rz F<=2)(h2:k%3=2)(hCC:C<=0):nH (Den prog) tab (vY 1 (mJ 1 (RS (mJ 3 (Tryz.f14.body.getD .skip))))) (λz e9 b9=>z=.ret/\Hz tab Tryz.f14 [none] (.c (xK (ED k A B C D E F))) z e9 b9) [(3,.ptr 3 0),(5,.ptr 5 0)] [(3,.var [zs A.num,zl A.num,zs A.den,zl A.den,zs B.num,zl B.num,zs B.den,zl B.den]),(5,.var [zs C.num,zl C.num,zs C.den,zl C.den])]:=by
 have hm:=qx k (show 0<3 by decide);have:RzB A 2:=⟨zA⟩
 have:RzB B 2:=⟨zB⟩
 have:RzB C 2:=⟨zC⟩
 have:RzB D 2:=⟨zD⟩
 have:RzB E 2:=⟨zE⟩
 have:RzB F 2:=⟨zF⟩
 haveI j_A:DenI prog 39 [.int .i8 a,.int .u8 (u:Nat)] True (R A):=⟨λ_=>hA⟩
 haveI j_B:DenI prog 39 [.int .i8 b,.int .u8 (u:Nat)] True (R B):=⟨λ_=>hB⟩
 haveI j_C:DenI prog 39 [.int .i8 c,.int .u8 (u:Nat)] True (R C):=⟨λ_=>hC⟩
 haveI j_D:DenI prog 39 [.int .i8 d,.int .u8 (u:Nat)] True (R D):=⟨λ_=>hD⟩
 haveI j_E:DenI prog 39 [.int .i8 e,.int .u8 (u:Nat)] True (R E):=⟨λ_=>hE⟩
 haveI j_F:DenI prog 39 [.int .i8 f,.int .u8 (u:Nat)] True (R F):=⟨λ_=>hF⟩
 all_goals(repeat'((try(conv=>whnf));first
  |refine aC ?_|(with_reducible refine aO (λ_=>?_) (λ_=>?_))))
 all_goals(try((conv=>whnf);(with_reducible refine⟨rfl, ?_⟩)))
 all_goals(repeat'((try(conv=>whnf));first
  |apply zaa))
 all_goals(try simp(disch:=omega) only[bG,Z4,dm3]at *)
 all_goals(try simp only[bn]at *)
 all_goals first
  |trivial|exact H9 ω (by with_reducible assumption)
theorem af4{k u:Nat}{a b c d e f:Int}{A B C D E F:Rat}(hk:k<256)(hA:Den prog 39 [.int .i8 a,.int .u8 (u:Nat)] (R A))(hB:Den prog 39 [.int .i8 b,.int .u8 (u:Nat)] (R B))(hC:Den prog 39 [.int .i8 c,.int .u8 (u:Nat)] (R C))(hD:Den prog 39 [.int .i8 d,.int .u8 (u:Nat)] (R D))(hE:Den prog 39 [.int .i8 e,.int .u8 (u:Nat)] (R E))(hF:Den prog 39 [.int .i8 f,.int .u8 (u:Nat)] (R F))(zA:rz A<=2)(zB:rz B<=2)(zC:rz C<=2)(zD:rz D<=2)(zE:rz E<=2)(zF:rz F<=2)(h2:k%3=2)(hCC:¬C<=0):nH (Den prog) tab (vY 1 (mJ 1 (RS (mJ 3 (Tryz.f14.body.getD .skip))))) (λz e9 b9=>z=.normal/\SubE [(3,.ptr 3 0),(5,.ptr 5 0)] e9/\SubB [(3,.var [zs A.num,zl A.num,zs A.den,zl A.den,zs B.num,zl B.num,zs B.den,zl B.den]),(5,.var [zs C.num,zl C.num,zs C.den,zl C.den])] b9) [(3,.ptr 3 0),(5,.ptr 5 0)] [(3,.var [zs A.num,zl A.num,zs A.den,zl A.den,zs B.num,zl B.num,zs B.den,zl B.den]),(5,.var [zs C.num,zl C.num,zs C.den,zl C.den])]:=by
 have hm:=qx k (show 0<3 by decide);have:RzB A 2:=⟨zA⟩
 have:RzB B 2:=⟨zB⟩
 have:RzB C 2:=⟨zC⟩
 have:RzB D 2:=⟨zD⟩
 have:RzB E 2:=⟨zE⟩
 have:RzB F 2:=⟨zF⟩
 haveI j_A:DenI prog 39 [.int .i8 a,.int .u8 (u:Nat)] True (R A):=⟨λ_=>hA⟩
 haveI j_B:DenI prog 39 [.int .i8 b,.int .u8 (u:Nat)] True (R B):=⟨λ_=>hB⟩
 haveI j_C:DenI prog 39 [.int .i8 c,.int .u8 (u:Nat)] True (R C):=⟨λ_=>hC⟩
 haveI j_D:DenI prog 39 [.int .i8 d,.int .u8 (u:Nat)] True (R D):=⟨λ_=>hD⟩
 haveI j_E:DenI prog 39 [.int .i8 e,.int .u8 (u:Nat)] True (R E):=⟨λ_=>hE⟩
 haveI j_F:DenI prog 39 [.int .i8 f,.int .u8 (u:Nat)] True (R F):=⟨λ_=>hF⟩
 all_goals(repeat'((try(conv=>whnf));first
  |refine aC ?_|(with_reducible refine aO (λ_=>?_) (λ_=>?_))))
 all_goals(try((conv=>whnf);(with_reducible refine⟨rfl, ?_⟩)))
 all_goals(try simp(disch:=omega) only[bG,Z4,dm3]at *)
 all_goals(try simp only[bn]at *)
 all_goals first
  |trivial
theorem aiS{k u:Nat}{a b c d e f:Int}{A B C D E F:Rat}(hk:k<256)(hA:Den prog 39 [.int .i8 a,.int .u8 (u:Nat)] (R A))(hB:Den prog 39 [.int .i8 b,.int .u8 (u:Nat)] (R B))(hC:Den prog 39 [.int .i8 c,.int .u8 (u:Nat)] (R C))(hD:Den prog 39 [.int .i8 d,.int .u8 (u:Nat)] (R D))(hE:Den prog 39 [.int .i8 e,.int .u8 (u:Nat)] (R E))(hF:Den prog 39 [.int .i8 f,.int .u8 (u:Nat)] (R F))(zA:rz A<=2)(zB:rz B<=2)(zC:rz C<=2)(zD:rz D<=2)(zE:rz E<=2)(zF:rz F<=2)(h2:k%3=2)(hCC:¬C<=0):nH (Den prog) tab (mJ 2 (RS (mJ 3 (Tryz.f14.body.getD .skip)))) (λz e9 b9=>z=.ret/\Hz tab Tryz.f14 [none] (.c (xK (ED k A B C D E F))) z e9 b9) [(3,.ptr 3 0),(5,.ptr 5 0)] [(3,.var [zs A.num,zl A.num,zs A.den,zl A.den,zs B.num,zl B.num,zs B.den,zl B.den]),(5,.var [zs C.num,zl C.num,zs C.den,zl C.den])]:=by
 have hm:=qx k (show 0<3 by decide);have:RzB A 2:=⟨zA⟩
 have:RzB B 2:=⟨zB⟩
 have:RzB C 2:=⟨zC⟩
 have:RzB D 2:=⟨zD⟩
 have:RzB E 2:=⟨zE⟩
 have:RzB F 2:=⟨zF⟩
 haveI j_A:DenI prog 39 [.int .i8 a,.int .u8 (u:Nat)] True (R A):=⟨λ_=>hA⟩
 haveI j_B:DenI prog 39 [.int .i8 b,.int .u8 (u:Nat)] True (R B):=⟨λ_=>hB⟩
 haveI j_C:DenI prog 39 [.int .i8 c,.int .u8 (u:Nat)] True (R C):=⟨λ_=>hC⟩
 haveI j_D:DenI prog 39 [.int .i8 d,.int .u8 (u:Nat)] True (R D):=⟨λ_=>hD⟩
 haveI j_E:DenI prog 39 [.int .i8 e,.int .u8 (u:Nat)] True (R E):=⟨λ_=>hE⟩
 haveI j_F:DenI prog 39 [.int .i8 f,.int .u8 (u:Nat)] True (R F):=⟨λ_=>hF⟩
 all_goals(repeat'((try(conv=>whnf));first
  |refine ak ?_ ?_))
 all_goals(try apply zab)
 all_goals(try((conv=>whnf);(with_reducible refine⟨rfl, ?_⟩)))
 all_goals(repeat'((try(conv=>whnf));first
  |apply zaa))
 all_goals first
  |omega|exact GR ω (by with_reducible assumption)
theorem afa{k u:Nat}{a b c d e f:Int}{A B C D E F:Rat}(hk:k<256)(hA:Den prog 39 [.int .i8 a,.int .u8 (u:Nat)] (R A))(hB:Den prog 39 [.int .i8 b,.int .u8 (u:Nat)] (R B))(hC:Den prog 39 [.int .i8 c,.int .u8 (u:Nat)] (R C))(hD:Den prog 39 [.int .i8 d,.int .u8 (u:Nat)] (R D))(hE:Den prog 39 [.int .i8 e,.int .u8 (u:Nat)] (R E))(hF:Den prog 39 [.int .i8 f,.int .u8 (u:Nat)] (R F))(zA:rz A<=2)(zB:rz B<=2)(zC:rz C<=2)(zD:rz D<=2)(zE:rz E<=2)(zF:rz F<=2):Den prog 14 [.agg [.v (.int .u8 (k:Nat)),.v (.int .u8 (u:Nat)),.v (.int .i8 a),.v (.int .i8 b),.v (.int .i8 c),.v (.int .i8 d),.v (.int .i8 e),.v (.int .i8 f)]] (.c (xK (ED k A B C D E F))):=by
 have r1:=air (k:=k) (u:=u) hk hA hB hC hD hE hF zA zB zC zD zE zF;refine Den.of ⟨ζ,λw X vs ho hX hl hR=>?_⟩ rfl
 haveI:WOk prog w:=.of ho
 refine enter func14 rfl rfl (by rw[hl];rfl) λa9 hFr=>?_
 have hc:=vM (N:=80) hX hl hR hFr;refine jI (τ:=tab) dJ dF 3 _ ζ r1 hc (λe9 b9 a9 w9 hq hc2=>?_) (λx e b a w hx hq hc=>absurd hq.1 hx);replace hc2:=hc2.sub hq.2.1 hq.2.2
 by_cases h2:k%3=2
 .refine bI ?_;refine jI (τ:=tab) dJ dF 1 _ ζ (afG (k:=k) (u:=u) hk hA hB hC hD hE hF zA zB zC zD zE zF h2) hc2 (λe9 b9 a9 w9 hq hc2=>?_) (λx e b a w hx hq hc=>absurd hq.1 hx);replace hc2:=hc2.sub hq.2.1 hq.2.2;refine iY (b:=true) (hc2.frm.cons (hc2.get (t:=33) (u:=.bool true) rfl (λ_ _ _ h=>by cases h))) rfl (λ_=>?_) (λh=>nomatch h);replace hc2:=hc2.sub (e:=[(1,.ptr 1 0),(3,.ptr 3 0),(4,.ptr 4 0)]) (b:=[(1,.var [.v (.int .u8 (k:Nat)),.v (.int .u8 (u:Nat)),.v (.int .i8 a),.v (.int .i8 b),.v (.int .i8 c),.v (.int .i8 d),.v (.int .i8 e),.v (.int .i8 f)]),(3,.var [zs A.num,zl A.num,zs A.den,zl A.den,zs B.num,zl B.num,zs B.den,zl B.den]),(4,.var [zs C.num,zl C.num,zs C.den,zl C.den,zs D.num,zl D.num,zs D.den,zl D.den])]) ⟨rfl,rfl,rfl,trivial⟩ ⟨rfl,rfl,rfl,trivial⟩;refine jI (τ:=tab) dJ dF 1 _ ζ (ahX (k:=k) (u:=u) hk hA hB hC hD hE hF zA zB zC zD zE zF h2) hc2 (λe9 b9 a9 w9 hq hc2=>?_) (λx e b a w hx hq hc=>absurd hq.1 hx);replace hc2:=hc2.sub hq.2.1 hq.2.2
  by_cases hCC:C<=0
  .refine jI (τ:=tab) dJ dF 1 _ ζ (aga (k:=k) (u:=u) hk hA hB hC hD hE hF zA zB zC zD zE zF h2 hCC) hc2 (λe9 b9 a9 w9 hq hc2=>nomatch hq.1) (λx e b a w hx hq hc=>?_);obtain⟨rfl,hq⟩:=hq;exact tq dJ hq hc
  .refine jI (τ:=tab) dJ dF 1 _ ζ (af4 (k:=k) (u:=u) hk hA hB hC hD hE hF zA zB zC zD zE zF h2 hCC) hc2 (λe9 b9 a9 w9 hq hc2=>?_) (λx e b a w hx hq hc=>absurd hq.1 hx);replace hc2:=hc2.sub hq.2.1 hq.2.2;refine iL (τ:=tab) dJ dF _ ζ (aiS (k:=k) (u:=u) hk hA hB hC hD hE hF zA zB zC zD zE zF h2 hCC) hc2 (λx e b a w' hx hc'=>?_);obtain⟨rfl,hq⟩:=hx;exact tq dJ hq hc'
 .refine jI (τ:=tab) dJ dF 1 _ ζ (afB (k:=k) (u:=u) hk hA hB hC hD hE hF zA zB zC zD zE zF h2) hc2 (λe9 b9 a9 w9 hq hc2=>?_) (λx e b a w hx hq hc=>absurd hq.1 hx);replace hc2:=hc2.sub hq.2.1 hq.2.2;exact iL (τ:=tab) dJ dF _ ζ (ahU (k:=k) (u:=u) hk hA hB hC hD hE hF zA zB zC zD zE zF h2) hc2 (λx e b a w' hx hc'=>tq dJ hx hc')
instance adq(k u:Nat)(a b c d e f:Int):DenI prog 14 [.agg [.v (.int .u8 (k:Nat)),.v (.int .u8 (u:Nat)),.v (.int .i8 a),.v (.int .i8 b),.v (.int .i8 c),.v (.int .i8 d),.v (.int .i8 e),.v (.int .i8 f)]] (k<256/\u<256/\(-128<=a/\a<128)/\(-128<=b/\b<128)/\(-128<=c/\c<128)/\(-128<=d/\d<128)/\(-128<=e/\e<128)/\(-128<=f/\f<128)) (.c (xK (ofC k u a b c d e f))):=⟨λ⟨hk,hu,na,nb,nc,nd,ne,nf⟩=>afa hk ((FZ a u).den ⟨na,hu⟩) ((FZ b u).den ⟨nb,hu⟩) ((FZ c u).den ⟨nc,hu⟩) ((FZ d u).den ⟨nd,hu⟩) ((FZ e u).den ⟨ne,hu⟩) ((FZ f u).den ⟨nf,hu⟩) (y7 na) (y7 nb) (y7 nc) (y7 nd) (y7 ne) (y7 nf)⟩
theorem kN{M:Type}{f:M->List Cell}{x:M}{r:List M}{k:List Cell->Prop}(h:k (f x)):Elem ((x::r).map f) 0 k:=⟨0,f x,rfl,rfl,h⟩
theorem kK{M:Type}{f:M->List Cell}{x y:M}{r:List M}{k:List Cell->Prop}(h:k (f y)):Elem ((x::y::r).map f) 1 k:=⟨1,f y,rfl,rfl,h⟩
instance akl(z:Cv):DenI prog 16 [.agg (dL z),.c (.sl 0 [])] (PC z/\(∀p∈([]:List Pnt),yZ p/\z.onR p=true)/\(([]:List Pnt)).length<=16) (.tup [.c (.sl 66 ((z.splR (([]:List Pnt))).map λc=>dL c)),.int .i64 0]):=⟨λh=>Xz ((Vw z []).den h)⟩
instance alc(z:Cv)(l m:List Pnt):DenI prog 16 [.agg (dL z),.c (.sl 20 ((l.map λp=>aY p)++(m.map λp=>aY p)))] (PC z/\(∀p∈l++m,yZ p/\z.onR p=true)/\(l++m).length<=16) (.tup [.c (.sl 66 ((z.splR (l++m)).map λc=>dL c)),.int .i64 0]):=⟨λh=>by have q:=(Vw z (l++m)).den h;rw [UZ] at q;exact q⟩
theorem akx{k u k2 u2 n:Nat}{a b c d e f a2 b2 c2 d2 e2 f2:Int}{z:Cv}{r:List Cv}(gz:GC z)(hn:n<256)(hA:Den prog 14 [.agg [.v (.int .u8 (k:Nat)),.v (.int .u8 (u:Nat)),.v (.int .i8 a),.v (.int .i8 b),.v (.int .i8 c),.v (.int .i8 d),.v (.int .i8 e),.v (.int .i8 f)]] (.c (xK (z::r))))(hB:Den prog 14 [.agg [.v (.int .u8 (k2:Nat)),.v (.int .u8 (u2:Nat)),.v (.int .i8 a2),.v (.int .i8 b2),.v (.int .i8 c2),.v (.int .i8 d2),.v (.int .i8 e2),.v (.int .i8 f2)]] (.c (xK []))):Den prog 4 [.agg [.v (.int .u8 (k:Nat)),.v (.int .u8 (u:Nat)),.v (.int .i8 a),.v (.int .i8 b),.v (.int .i8 c),.v (.int .i8 d),.v (.int .i8 e),.v (.int .i8 f),.v (.int .u8 (k2:Nat)),.v (.int .u8 (u2:Nat)),.v (.int .i8 a2),.v (.int .i8 b2),.v (.int .i8 c2),.v (.int .i8 d2),.v (.int .i8 e2),.v (.int .i8 f2),.v (.int .u8 (n:Nat))]] (.tup [.agg (dL (Vd z (([]:List Pnt)) n)),.bool true]):=by
 haveI i1:DenI prog 14 [.agg [.v (.int .u8 (k:Nat)),.v (.int .u8 (u:Nat)),.v (.int .i8 a),.v (.int .i8 b),.v (.int .i8 c),.v (.int .i8 d),.v (.int .i8 e),.v (.int .i8 f)]] True (.c (xK (z::r))):=⟨λ_=>hA⟩
 haveI i2:DenI prog 14 [.agg [.v (.int .u8 (k2:Nat)),.v (.int .u8 (u2:Nat)),.v (.int .i8 a2),.v (.int .i8 b2),.v (.int .i8 c2),.v (.int .i8 d2),.v (.int .i8 e2),.v (.int .i8 f2)]] True (.c (xK [])):=⟨λ_=>hB⟩
 have hcut:(∀p∈([]:List Pnt),yZ p/\z.onR p=true)/\(([]:List Pnt)).length<=16:=by
  exact⟨λp hp=>(by cases hp),ψ⟩
 have hsp:=Bf gz hcut.1;have hlen:=hsp.2.1;have hc16:=hcut.2
 try rw[rQ]at hc16
 refine aS func4 rfl ?_
 all_goals(repeat'((try rw[Jt]);(try rw[EP]);(try(conv=>whnf));first
  |refine aC ?_|(with_reducible refine aO (λ_=>?_) (λ_=>?_))|refine zac ζ ?_|apply zaa))
 all_goals first
  |((conv=>whnf);refine Sw.Loop.unroll ?_)|skip
 all_goals(repeat'((try rw[Jt]);(try rw[EP]);(try(conv=>whnf));first
  |refine ak ?_ ?_|refine fA ψ ?_|refine aK ?_ ?_|(with_reducible refine kN ?_)|refine aT O1 ?_ ?_|apply zaa))
 all_goals(try apply zab)
 all_goals(try simp only[bW,dI]at *)
 all_goals(try simp(disch:=omega) only[bG,jB,dI,bW,kG]at *)
 all_goals(try simp only[tmN,dI]at *)
 all_goals first
  |rfl|omega|exact⟨gz.b.c,hcut⟩|(exfalso;rename_i hx;simp only[ji]at hx;omega)|exact⟨ω,by have:=qx n (show 0<(z.splR (([]:List Pnt))).length by omega);omega⟩
theorem akF{k u k2 u2 n:Nat}{a b c d e f a2 b2 c2 d2 e2 f2:Int}{z:Cv}{r:List Cv}{y:Cv}(gz:GC z)(gy:GC y)(hn:n<256)(hA:Den prog 14 [.agg [.v (.int .u8 (k:Nat)),.v (.int .u8 (u:Nat)),.v (.int .i8 a),.v (.int .i8 b),.v (.int .i8 c),.v (.int .i8 d),.v (.int .i8 e),.v (.int .i8 f)]] (.c (xK (z::r))))(hB:Den prog 14 [.agg [.v (.int .u8 (k2:Nat)),.v (.int .u8 (u2:Nat)),.v (.int .i8 a2),.v (.int .i8 b2),.v (.int .i8 c2),.v (.int .i8 d2),.v (.int .i8 e2),.v (.int .i8 f2)]] (.c (xK [y]))):Den prog 4 [.agg [.v (.int .u8 (k:Nat)),.v (.int .u8 (u:Nat)),.v (.int .i8 a),.v (.int .i8 b),.v (.int .i8 c),.v (.int .i8 d),.v (.int .i8 e),.v (.int .i8 f),.v (.int .u8 (k2:Nat)),.v (.int .u8 (u2:Nat)),.v (.int .i8 a2),.v (.int .i8 b2),.v (.int .i8 c2),.v (.int .i8 d2),.v (.int .i8 e2),.v (.int .i8 f2),.v (.int .u8 (n:Nat))]] (.tup [.agg (dL (Vd z (z.meetR y) n)),.bool true]):=by
 haveI i1:DenI prog 14 [.agg [.v (.int .u8 (k:Nat)),.v (.int .u8 (u:Nat)),.v (.int .i8 a),.v (.int .i8 b),.v (.int .i8 c),.v (.int .i8 d),.v (.int .i8 e),.v (.int .i8 f)]] True (.c (xK (z::r))):=⟨λ_=>hA⟩
 haveI i2:DenI prog 14 [.agg [.v (.int .u8 (k2:Nat)),.v (.int .u8 (u2:Nat)),.v (.int .i8 a2),.v (.int .i8 b2),.v (.int .i8 c2),.v (.int .i8 d2),.v (.int .i8 e2),.v (.int .i8 f2)]] True (.c (xK [y])):=⟨λ_=>hB⟩
 have hcut:(∀p∈z.meetR y,yZ p/\z.onR p=true)/\(z.meetR y).length<=16:=by
  have h1:=nY gz gy;exact⟨h1.1,fZ h1.2 ψ⟩
 have hsp:=Bf gz hcut.1;have hlen:=hsp.2.1;have hc16:=hcut.2
 try rw[rQ]at hc16
 refine aS func4 rfl ?_
 all_goals(repeat'((try rw[Jt]);(try rw[EP]);(try(conv=>whnf));first
  |refine aC ?_|(with_reducible refine aO (λ_=>?_) (λ_=>?_))|refine zac ζ ?_|apply zaa))
 all_goals first
  |((conv=>whnf);refine Sw.Loop.unroll ?_)|skip
 all_goals(repeat'((try rw[Jt]);(try rw[EP]);(try(conv=>whnf));first
  |refine ak ?_ ?_|(with_reducible refine aO (λ_=>?_) (λ_=>?_))|refine aK ?_ ?_|refine zac ζ ?_|(with_reducible refine kN ?_)|refine aT O1 ?_ ?_|apply zaa))
 all_goals(try apply zab)
 all_goals first
  |((conv=>whnf);refine Sw.Loop.unroll ?_)|skip
 all_goals(repeat'((try rw[Jt]);(try rw[EP]);(try(conv=>whnf));first
  |refine ak ?_ ?_|(with_reducible refine aO (λ_=>?_) (λ_=>?_))|refine aK ?_ ?_|refine zac ζ ?_|(with_reducible refine kN ?_)|refine aT O1 ?_ ?_|apply zaa))
 all_goals(try apply zab)
 all_goals(try simp only[bW,dI]at *)
 all_goals(try simp(disch:=omega) only[bG,jB,dI,bW,kG]at *)
 all_goals(try simp only[tmN,dI]at *)
 all_goals first
  |rfl|omega|trivial|exact⟨gz.b.c,hcut⟩|(exfalso;rename_i hx;simp only[ji]at hx;omega)|exact⟨ω,by have:=qx n (show 0<(z.splR (z.meetR y)).length by omega);omega⟩
theorem alD{k u k2 u2 n:Nat}{a b c d e f a2 b2 c2 d2 e2 f2:Int}{z:Cv}{r:List Cv}{y y2:Cv}(gz:GC z)(gy:GC y)(gy2:GC y2)(hn:n<256)(hA:Den prog 14 [.agg [.v (.int .u8 (k:Nat)),.v (.int .u8 (u:Nat)),.v (.int .i8 a),.v (.int .i8 b),.v (.int .i8 c),.v (.int .i8 d),.v (.int .i8 e),.v (.int .i8 f)]] (.c (xK (z::r))))(hB:Den prog 14 [.agg [.v (.int .u8 (k2:Nat)),.v (.int .u8 (u2:Nat)),.v (.int .i8 a2),.v (.int .i8 b2),.v (.int .i8 c2),.v (.int .i8 d2),.v (.int .i8 e2),.v (.int .i8 f2)]] (.c (xK [y,y2]))):Den prog 4 [.agg [.v (.int .u8 (k:Nat)),.v (.int .u8 (u:Nat)),.v (.int .i8 a),.v (.int .i8 b),.v (.int .i8 c),.v (.int .i8 d),.v (.int .i8 e),.v (.int .i8 f),.v (.int .u8 (k2:Nat)),.v (.int .u8 (u2:Nat)),.v (.int .i8 a2),.v (.int .i8 b2),.v (.int .i8 c2),.v (.int .i8 d2),.v (.int .i8 e2),.v (.int .i8 f2),.v (.int .u8 (n:Nat))]] (.tup [.agg (dL (Vd z ((z.meetR y++z.meetR y2)) n)),.bool true]):=by
 haveI i1:DenI prog 14 [.agg [.v (.int .u8 (k:Nat)),.v (.int .u8 (u:Nat)),.v (.int .i8 a),.v (.int .i8 b),.v (.int .i8 c),.v (.int .i8 d),.v (.int .i8 e),.v (.int .i8 f)]] True (.c (xK (z::r))):=⟨λ_=>hA⟩
 haveI i2:DenI prog 14 [.agg [.v (.int .u8 (k2:Nat)),.v (.int .u8 (u2:Nat)),.v (.int .i8 a2),.v (.int .i8 b2),.v (.int .i8 c2),.v (.int .i8 d2),.v (.int .i8 e2),.v (.int .i8 f2)]] True (.c (xK [y,y2])):=⟨λ_=>hB⟩
 have hcut:(∀p∈(z.meetR y++z.meetR y2),yZ p/\z.onR p=true)/\((z.meetR y++z.meetR y2)).length<=16:=by
  have h1:=nY gz gy;have h2:=nY gz gy2;exact⟨λp hp=>(uh.1 hp).elim (h1.1 p) (h2.1 p),by rw[rQ];have:=h1.2;have:=h2.2;omega⟩
 have hsp:=Bf gz hcut.1;have hlen:=hsp.2.1;have hc16:=hcut.2
 try rw[rQ]at hc16
 refine aS func4 rfl ?_
 all_goals(repeat'((try rw[Jt]);(try rw[EP]);(try(conv=>whnf));first
  |refine aC ?_|(with_reducible refine aO (λ_=>?_) (λ_=>?_))|refine zac ζ ?_|apply zaa))
 all_goals first
  |((conv=>whnf);refine Sw.Loop.unroll ?_)|skip
 all_goals(repeat'((try rw[Jt]);(try rw[EP]);(try(conv=>whnf));first
  |refine ak ?_ ?_|(with_reducible refine aO (λ_=>?_) (λ_=>?_))|refine aK ?_ ?_|refine zac ζ ?_|(with_reducible refine kN ?_)|refine aT O1 ?_ ?_|apply zaa))
 all_goals(try apply zab)
 all_goals first
  |((conv=>whnf);refine Sw.Loop.unroll ?_)|skip
 all_goals(repeat'((try rw[Jt]);(try rw[EP]);(try(conv=>whnf));first
  |refine ak ?_ ?_|(with_reducible refine aO (λ_=>?_) (λ_=>?_))|refine aK ?_ ?_|refine zac ζ ?_|(with_reducible first|refine kN ?_|refine kK ?_)|refine aT O1 ?_ ?_|apply zaa))
 all_goals(try apply zab)
 all_goals first
  |((conv=>whnf);refine Sw.Loop.unroll ?_)|skip
 all_goals(repeat'((try rw[Jt]);(try rw[EP]);(try(conv=>whnf));first
  |refine ak ?_ ?_|(with_reducible refine aO (λ_=>?_) (λ_=>?_))|refine aK ?_ ?_|refine zac ζ ?_|(with_reducible refine kN ?_)|refine aT O1 ?_ ?_|apply zaa))
 all_goals(try apply zab)
 all_goals(try simp only[bW,dI]at *)
 all_goals(try simp(disch:=omega) only[bG,jB,dI,bW,kG]at *)
 all_goals(try simp only[tmN,dI]at *)
 all_goals first
  |rfl|omega|trivial|exact⟨gz.b.c,hcut⟩|(simp only[rQ,bW];omega)|(exfalso;rename_i hx;simp only[ji]at hx;omega)|exact⟨ω,by have:=qx n (show 0<(z.splR ((z.meetR y++z.meetR y2))).length by omega);omega⟩
theorem akm{k u k2 u2 n:Nat}{a b c d e f a2 b2 c2 d2 e2 f2:Int}{B:List Cv}(hA:Den prog 14 [.agg [.v (.int .u8 (k:Nat)),.v (.int .u8 (u:Nat)),.v (.int .i8 a),.v (.int .i8 b),.v (.int .i8 c),.v (.int .i8 d),.v (.int .i8 e),.v (.int .i8 f)]] (.c (xK [])))(hB:Den prog 14 [.agg [.v (.int .u8 (k2:Nat)),.v (.int .u8 (u2:Nat)),.v (.int .i8 a2),.v (.int .i8 b2),.v (.int .i8 c2),.v (.int .i8 d2),.v (.int .i8 e2),.v (.int .i8 f2)]] (.c (xK B))):Den prog 4 [.agg [.v (.int .u8 (k:Nat)),.v (.int .u8 (u:Nat)),.v (.int .i8 a),.v (.int .i8 b),.v (.int .i8 c),.v (.int .i8 d),.v (.int .i8 e),.v (.int .i8 f),.v (.int .u8 (k2:Nat)),.v (.int .u8 (u2:Nat)),.v (.int .i8 a2),.v (.int .i8 b2),.v (.int .i8 c2),.v (.int .i8 d2),.v (.int .i8 e2),.v (.int .i8 f2),.v (.int .u8 (n:Nat))]] (.tup [.agg [.v (.bool false),.v (.bool false),.sl 1 [],.v (.bool false),.sl 1 [],.v (.bool false),.sl 1 [],.v (.bool false),.sl 1 [],.v (.bool false),.sl 1 [],.v (.bool false),.sl 1 [],.v (.bool false),.sl 1 [],.v (.bool false),.sl 1 [],.v (.bool false),.sl 1 [],.v (.bool false),.sl 1 [],.v (.bool false),.sl 1 [],.v (.bool false),.sl 1 [],.v (.bool false),.v (.bool false),.sl 1 [],.v (.bool false),.sl 1 [],.v (.bool false),.sl 1 [],.v (.bool false),.sl 1 [],.v (.bool false),.sl 1 [],.v (.bool false),.sl 1 [],.v (.bool false),.sl 1 [],.v (.bool false),.sl 1 [],.v (.bool false),.sl 1 [],.v (.bool false),.sl 1 [],.v (.bool false),.sl 1 [],.v (.bool false),.sl 1 [],.v (.bool false),.sl 1 [],.v (.bool false),.sl 1 [],.v (.bool false),.sl 1 [],.v (.bool false),.sl 1 [],.v (.bool false),.sl 1 [],.v (.bool false),.sl 1 [],.v (.bool false),.sl 1 [],.v (.bool false),.sl 1 []],.bool false]):=by
 haveI i1:DenI prog 14 [.agg [.v (.int .u8 (k:Nat)),.v (.int .u8 (u:Nat)),.v (.int .i8 a),.v (.int .i8 b),.v (.int .i8 c),.v (.int .i8 d),.v (.int .i8 e),.v (.int .i8 f)]] True (.c (xK [])):=⟨λ_=>hA⟩
 haveI i2:DenI prog 14 [.agg [.v (.int .u8 (k2:Nat)),.v (.int .u8 (u2:Nat)),.v (.int .i8 a2),.v (.int .i8 b2),.v (.int .i8 c2),.v (.int .i8 d2),.v (.int .i8 e2),.v (.int .i8 f2)]] True (.c (xK B)):=⟨λ_=>hB⟩
 refine aS func4 rfl ?_
 all_goals(repeat'((try rw[Jt]);(try rw[EP]);(try(conv=>whnf));first
  |refine aC ?_|refine dK ψ ?_|refine zac ζ ?_|apply zaa))
 all_goals first
  |rfl
theorem Y3{k u k2 u2 n:Nat}{a b c d e f a2 b2 c2 d2 e2 f2:Int}(p:(k<256/\u<256/\(-128<=a/\a<128)/\(-128<=b/\b<128)/\(-128<=c/\c<128)/\(-128<=d/\d<128)/\(-128<=e/\e<128)/\(-128<=f/\f<128))/\(k2<256/\u2<256/\(-128<=a2/\a2<128)/\(-128<=b2/\b2<128)/\(-128<=c2/\c2<128)/\(-128<=d2/\d2<128)/\(-128<=e2/\e2<128)/\(-128<=f2/\f2<128))/\n<256):Den prog 4 [.agg [.v (.int .u8 (k:Nat)),.v (.int .u8 (u:Nat)),.v (.int .i8 a),.v (.int .i8 b),.v (.int .i8 c),.v (.int .i8 d),.v (.int .i8 e),.v (.int .i8 f),.v (.int .u8 (k2:Nat)),.v (.int .u8 (u2:Nat)),.v (.int .i8 a2),.v (.int .i8 b2),.v (.int .i8 c2),.v (.int .i8 d2),.v (.int .i8 e2),.v (.int .i8 f2),.v (.int .u8 (n:Nat))]] (.tup [.agg [.v (.bool false),.v (.bool false),.sl 1 [],.v (.bool false),.sl 1 [],.v (.bool false),.sl 1 [],.v (.bool false),.sl 1 [],.v (.bool false),.sl 1 [],.v (.bool false),.sl 1 [],.v (.bool false),.sl 1 [],.v (.bool false),.sl 1 [],.v (.bool false),.sl 1 [],.v (.bool false),.sl 1 [],.v (.bool false),.sl 1 [],.v (.bool false),.sl 1 [],.v (.bool false),.v (.bool false),.sl 1 [],.v (.bool false),.sl 1 [],.v (.bool false),.sl 1 [],.v (.bool false),.sl 1 [],.v (.bool false),.sl 1 [],.v (.bool false),.sl 1 [],.v (.bool false),.sl 1 [],.v (.bool false),.sl 1 [],.v (.bool false),.sl 1 [],.v (.bool false),.sl 1 [],.v (.bool false),.sl 1 [],.v (.bool false),.sl 1 [],.v (.bool false),.sl 1 [],.v (.bool false),.sl 1 [],.v (.bool false),.sl 1 [],.v (.bool false),.sl 1 [],.v (.bool false),.sl 1 [],.v (.bool false),.sl 1 [],.v (.bool false),.sl 1 [],.v (.bool false),.sl 1 []],.bool false])\/∃z,GC z/\Den prog 4 [.agg [.v (.int .u8 (k:Nat)),.v (.int .u8 (u:Nat)),.v (.int .i8 a),.v (.int .i8 b),.v (.int .i8 c),.v (.int .i8 d),.v (.int .i8 e),.v (.int .i8 f),.v (.int .u8 (k2:Nat)),.v (.int .u8 (u2:Nat)),.v (.int .i8 a2),.v (.int .i8 b2),.v (.int .i8 c2),.v (.int .i8 d2),.v (.int .i8 e2),.v (.int .i8 f2),.v (.int .u8 (n:Nat))]] (.tup [.agg (dL z),.bool true]):=by
 obtain⟨p1,p2,hn⟩:=p;have hA:=(adq k u a b c d e f).den p1;have hB:=(adq k2 u2 a2 b2 c2 d2 e2 f2).den p2;have gA:∀z∈ofC k u a b c d e f,GC z:=Xt (ng p1.2.2.1) (ng p1.2.2.2.1) (ng p1.2.2.2.2.1) (ng p1.2.2.2.2.2.1) (ng p1.2.2.2.2.2.2.1) (ng p1.2.2.2.2.2.2.2);have gB:∀z∈ofC k2 u2 a2 b2 c2 d2 e2 f2,GC z:=Xt (ng p2.2.2.1) (ng p2.2.2.2.1) (ng p2.2.2.2.2.1) (ng p2.2.2.2.2.2.1) (ng p2.2.2.2.2.2.2.1) (ng p2.2.2.2.2.2.2.2);have lB:(ofC k2 u2 a2 b2 c2 d2 e2 f2).length<=2:=aaB _ _ _ _ _ _ _;generalize ofC k u a b c d e f=A at hA gA;generalize ofC k2 u2 a2 b2 c2 d2 e2 f2=B at hB gB lB
 match A,hA,gA with
 |[],hA,_=>exact .inl (akm hA hB)
 |z::r,hA,gA =>
  have gz:=gA z List.mem_cons_self;refine .inr ⟨TW z B n,aaG gz gB n, ?_⟩
  match B,hB,gB,lB with
  |[],hB,_,_=>exact akx gz hn hA hB
  |[y],hB,gB,_=>rw[<-ahb];exact akF gz (gB y List.mem_cons_self) hn hA hB
  |[y,y2],hB,gB,_=>rw[<-aiV];exact alD gz (gB y List.mem_cons_self) (gB y2 η) hn hA hB
  |_::_::_::_,_,_,lB=>exact absurd lB η
theorem abe(l:List Pnt){k0:Nat}(hl:∀p∈l,PB p)(hn0:l.length<=16)(h0:0<k0)(hk0:k0<l.length)(hno:∀j,0<j->j<k0->pE (l.getD j O0) (l.getD (j-1) O0)=false)(hcp:xI pE (l.take k0)=l.take k0)(hyes:pE (l.getD k0 O0) (l.getD (k0-1) O0)=true):EW prog 79 37 20 (l.map λp=>aY p) [.c (.v (.func (.func 13) #[] #[]))] (.c (.sl 20 ((xI pE l).map λp=>aY p))):=by
 refine⟨ζ,λw X g cap uss rest vs ho hX hgX hg hS hc hcm hn hs hl0 hR=>?_⟩
 letI G:Gr:=⟨[g]⟩
 haveI:WOk prog w:=⟨λw' _=>trivial⟩
 refine enter func79 rfl rfl (by simp only[ji,hl0];rfl) λa hF=>?_
 have hcc:=uD hX hgX hg hS hc hcm hn hs hl0 hR hF;rw[bW]at hcc hn
 letI K:Kp:=Vs (.slice (some ⟨g,0,none⟩) l.length cap)
 refine jI (τ:=tab) dJ dF 2 _ (QA:=λz e9 b9=>z=.normal/\SubE [(0,.gs 0 l.length),(1,.c (.v (.func (.func 13) #[] #[])))] e9/\SubB [(0,.grow 37 20 (l.map λp=>aY p))] b9) (jy _ ζ) ?_ hcc (λe9 b9 a1 w1 hq hc2=>?_) (λx e b a w hx hq hc=>absurd hq.1 hx)
 case refine_1 =>
  clear hcc hF
  all_goals(repeat'((try(conv=>whnf));first
   |(with_reducible refine aO (λ_=>?_) (λ_=>?_))|refine aK ?_ ?_))
  all_goals(try apply zab)
  all_goals(try simp only[bW,dI]at *)
  all_goals(try simp(disch:=omega) only[bG,jB,dI,bW,kG]at *)
  all_goals first|(show SubE _ _;repeat'(first|exact trivial|refine And.intro ?_ ?_))|(show SubB _ _;repeat'(first|exact trivial|refine And.intro ?_ ?_))|skip
  all_goals first
   |omega|trivial
 replace hc2:=hc2.sub hq.2.1 hq.2.2;clear hcc hF hq;refine bI ?_;refine jI (τ:=tab) dJ dF 1 _ (QA:=λz e9 b9=>z=.normal/\SubE [(0,.gs 0 l.length),(1,.c (.v (.func (.func 13) #[] #[]))),(5,.int .i64 (1:Nat))] e9/\SubB [(0,.grow 37 20 (l.map λp=>aY p))] b9) (jy _ ζ) ?_ hc2 (λe9 b9 a2 w2 hq hc3=>?_) (λx e b a w hx hq hc=>absurd hq.1 hx)
 case refine_1 =>
  clear hc2
  all_goals first|(show SubE _ _;repeat'(first|exact trivial|refine And.intro ?_ ?_))|(show SubB _ _;repeat'(first|exact trivial|refine And.intro ?_ ?_))|skip
  all_goals first
   |trivial
 replace hc3:=hc3.sub hq.2.1 hq.2.2;clear hc2 hq;refine iK (uQ (λn a w1=>∃k:Nat,n=k0-k/\0<k/\k<=k0/\@Conc ⟨[(0,.slice (some ⟨g,0,none⟩) l.length cap)],[]⟩ ⟨[g]⟩ 66 w (X.filter λx=>!(Nat.beq x g)) [(0,.gs 0 l.length),(1,.c (.v (.func (.func 13) #[] #[]))),(5,.int .i64 (k:Nat))] [(0,.grow 37 20 (l.map λp=>aY p))] a w1) ⟨k0-1,1,rfl,ω,ω,hc3⟩ (λn a3 w3 hI=>?_));clear hc3;obtain⟨k,rfl,hk,hkk,hc4⟩:=hI
 by_cases hlt:k<k0
 .refine iL (τ:=tab) dJ dF _ (QA:=λz e9 b9=>z=.normal/\SubE [(0,.gs 0 l.length),(1,.c (.v (.func (.func 13) #[] #[]))),(5,.int .i64 ((k+1):Nat))] e9/\SubB [(0,.grow 37 20 (l.map λp=>aY p))] b9) (jy _ ζ) ?_ hc4 (λx e b a w4 hx hc5=>?_)
  .clear hc4
   all_goals(repeat'((try(conv=>whnf));first
    |refine ak ?_ ?_|(with_reducible refine aO (λ_=>?_) (λ_=>?_))|refine zad (λ_=>?_) (λ_=>?_)|refine aK ?_ ?_|refine zac ζ ?_|refine aH ?_ ?_|refine aT O0 ?_ ?_))
   all_goals(try apply zab)
   all_goals(try simp only[bW,dI]at *)
   all_goals(try simp(disch:=omega) only[bG,jB,dI,bW,kG]at *)
   all_goals first|(show SubE _ _;repeat'(first|exact trivial|refine And.intro ?_ ?_))|(show SubB _ _;repeat'(first|exact trivial|refine And.intro ?_ ?_))|skip
   all_goals first
    |omega|exact⟨rfl,⟨rfl,rfl,(show some (AV.int .i64 _)=some (AV.int .i64 _)from by first|exact zaj|exact zak),trivial⟩,⟨rfl,trivial⟩⟩|exact⟨bP hl ω,bP hl ω⟩|(exfalso;rename_i hx;rw[hno k hk hlt]at hx;cases hx)
  .obtain⟨rfl,h1,h2⟩:=hx;exact dW ⟨_,ω,k+1,rfl,ω,ω,hc5.sub h1 h2⟩
 .obtain rfl:k0=k:=ω
  clear hlt hkk;refine bI ?_;refine iL (τ:=tab) dJ dF _ (QA:=λz e9 b9=>z=.normal/\SubE [(0,.gs 0 l.length),(1,.c (.v (.func (.func 13) #[] #[]))),(5,.int .i64 (k0:Nat))] e9/\SubB [(0,.grow 37 20 (l.map λp=>aY p))] b9) (jy _ ζ) ?_ hc4 (λx e b a4 w4 hx hc5=>?_)
  .clear hc4
   all_goals(repeat'((try(conv=>whnf));first
    |(with_reducible refine aO (λ_=>?_) (λ_=>?_))|refine aK ?_ ?_))
   all_goals(try apply zab)
   all_goals(try simp only[bW,dI]at *)
   all_goals first|(show SubE _ _;repeat'(first|exact trivial|refine And.intro ?_ ?_))|(show SubB _ _;repeat'(first|exact trivial|refine And.intro ?_ ?_))|skip
   all_goals first
    |omega|trivial
  obtain⟨rfl,h1,h2⟩:=hx;replace hc5:=hc5.sub h1 h2;clear hc4 h1 h2;refine dW (bI (iK (bI ?_)));refine iL (τ:=tab) dJ dF _ (QA:=λz e9 b9=>z=.normal/\SubE ((28,.bool true)::[(0,.gs 0 l.length),(1,.c (.v (.func (.func 13) #[] #[]))),(5,.int .i64 (k0:Nat))]) e9/\SubB [(0,.grow 37 20 (l.map λp=>aY p))] b9) (jy _ ζ) ?_ hc5 (λx e b a5 w5 hx hc6=>?_)
  .clear hc5
   all_goals(repeat'((try(conv=>whnf));first
    |refine ak ?_ ?_|refine aK ?_ ?_|refine zac ζ ?_|refine aT O0 ?_ ?_))
   all_goals(try apply zab)
   all_goals(try simp only[bW,dI]at *)
   all_goals(try simp(disch:=omega) only[bG,jB,dI,bW,kG]at *)
   all_goals first|(show SubE _ _;repeat'(first|exact trivial|refine And.intro ?_ ?_))|(show SubB _ _;repeat'(first|exact trivial|refine And.intro ?_ ?_))|skip
   all_goals first
    |omega|exact⟨trivial,⟨congrArg (λb=>some (AV.bool b)) hyes,rfl,rfl,rfl,trivial⟩,⟨rfl,trivial⟩⟩|exact⟨bP hl ω,bP hl ω⟩
  obtain⟨rfl,h1,h2⟩:=hx;replace hc6:=hc6.sub h1 h2;clear hc5 h1 h2;obtain⟨S,M,hst⟩:=hc6;have h28:a5.tmps.getD 28 undef=.bool true:=(hst.env 28 _ rfl).v_;have hu0:a5.tmps.getD 0 undef=.slice (some ⟨g,0,none⟩) l.length cap:=hst.df.1.2 0 _ (List.mem_cons_self);have hu1:a5.tmps.getD 1 undef=.func (.func 13) #[] #[]:=(hst.env 1 _ rfl).v_;have hu5:a5.tmps.getD 5 undef=.int .i64 (k0:Nat):=(hst.env 5 _ rfl).v_;have hF:Frm 66 a5 [(28,.bool true),(0,.slice (some ⟨g,0,none⟩) l.length cap),(1,.func (.func 13) #[] #[]),(5,.int .i64 (k0:Nat))]:=((((show Frm 66 a5 []from⟨hst.sz,hst.df.1.1,λt v h=>by simp[lk]at h⟩).cons hu5).cons hu1).cons hu0).cons h28;refine dW (iY hF rfl (λ_=>?_) (λh=>nomatch h));obtain⟨_,hsl,_⟩:=sliceT (bU dJ (t:=43) rfl);refine bI (bK (wp1 rfl (bT (hF.ev rfl)) ?_));replace hF:=hF.put (d:=29) ψ (.slice (some ⟨g,0,none⟩) l.length cap);refine wp1 rfl (bT (hF.ev rfl)) ?_;replace hF:=hF.put (d:=30) ψ (.int .i64 (k0:Nat));refine wp1 rfl (qw (j:=k0) hsl (hF.ev rfl) (hF.ev rfl) rfl hk0 hn) ?_;replace hF:=hF.put (d:=31) ψ (.slice (some ⟨g,k0*20,none⟩) (l.length-k0) (cap-k0));refine wp1 rfl (jF (hF.ev rfl)) ?_;replace hF:=hF.put (d:=6) ψ (.slice (some ⟨g,k0*20,none⟩) (l.length-k0) (cap-k0));refine(show Exit.then _ _ .normal _ _ from dW ?_)
  have hst2 : @Sta ⟨[(0,.slice (some ⟨g,0,none⟩) l.length cap),(6,.slice (some ⟨g,k0*20,none⟩) (l.length-k0) (cap-k0))],[]⟩ ⟨[g]⟩ 66 w (X.filter λx=>!(Nat.beq x g)) S M _ _ [(28,.bool true),(0,.gs 0 l.length),(1,.c (.v (.func (.func 13) #[] #[]))),(5,.int .i64 (k0:Nat))] [(0,.grow 37 20 (l.map λp=>aY p))]:=(hst.moveG hF.size hF.defers (λt u h=>by
   have h:(t,u)∈[((0:Nat),.slice (some ⟨g,0,none⟩) l.length cap)]:=h;rw[pI]at h;cases h
   exact hF.get 0 _ rfl) (λt v hv=>by
   have ht:=ldk hv;simp only[xZ,List.map_nil,jA,List.not_mem_nil,or_false]at ht;rcases ht with rfl|rfl|rfl|rfl
   .exact(hF.get 28 _ rfl).trans h28.symm
   .exact(hF.get 0 _ rfl).trans hu0.symm
   .exact(hF.get 1 _ rfl).trans hu1.symm
   .exact(hF.get 5 _ rfl).trans hu5.symm)).keepG [(0,.slice (some ⟨g,0,none⟩) l.length cap),(6,.slice (some ⟨g,k0*20,none⟩) (l.length-k0) (cap-k0))] (λt u h=>by
   simp only[jA,ou,List.not_mem_nil,or_false]at h;rcases h with⟨rfl,rfl⟩|⟨rfl,rfl⟩
   .exact hF.get 0 _ rfl
   .exact hF.get 6 _ rfl)
  clear hst hF h28 hu0 hu1 hu5;have hc7 : @Conc ⟨[(0,.slice (some ⟨g,0,none⟩) l.length cap),(6,.slice (some ⟨g,k0*20,none⟩) (l.length-k0) (cap-k0))],[]⟩ ⟨[g]⟩ 66 w (X.filter λx=>!(Nat.beq x g)) [(28,.bool true),(0,.gs 0 l.length),(1,.c (.v (.func (.func 13) #[] #[]))),(5,.int .i64 (k0:Nat))] [(0,.grow 37 20 (l.map λp=>aY p))] _ _:=⟨S,M,hst2⟩
  clear hst2
  have kl6:∀{k d:Nat} (t:Nat) (u:Value),(t,u)∈([(0,.slice (some ⟨g,0,none⟩) l.length cap),(6,.slice (some ⟨g,k0*20,none⟩) (l.length-k0) (cap-k0))]:List (Nat×Value))->(t,u)∈([(0,.slice (some ⟨g,0,none⟩) l.length cap),(6,.slice (some ⟨g,k0*20,none⟩) (l.length-k0) (cap-k0)),(1,.func (.func 13) #[] #[]),(5,.int .i64 (k:Nat)),(7,.int .i64 (d:Nat))]:List (Nat×Value)):=λt u h=>by
   simp only[jA,List.not_mem_nil,or_false]at h ⊢;rcases h with h|h<;>simp[h]
  have ke6:∀{k d:Nat} (t:Nat) (v:AV),ld t [(0,.gs 0 l.length),(1,.c (.v (.func (.func 13) #[] #[]))),(5,.int .i64 (k:Nat)),(7,.int .i64 (d:Nat))]=some v->∃u,(t,u)∈([(0,.slice (some ⟨g,0,none⟩) l.length cap),(6,.slice (some ⟨g,k0*20,none⟩) (l.length-k0) (cap-k0)),(1,.func (.func 13) #[] #[]),(5,.int .i64 (k:Nat)),(7,.int .i64 (d:Nat))]:List (Nat×Value)):=λt v hv=>by
   have ht:=ldk hv;simp only[xZ,List.map_nil,jA,List.not_mem_nil,or_false]at ht;rcases ht with rfl|rfl|rfl|rfl
   .exact⟨_,.head _⟩
   .exact⟨_,.tail _ (.tail _ (.head _))⟩
   .exact⟨_,.tail _ (.tail _ (.tail _ (.head _)))⟩
   .exact⟨_,.tail _ (.tail _ (.tail _ (.tail _ (.head _))))⟩
  have he6:∀(k d:Nat) (L:List Pnt) (a9:Act) (w9:World),(∀t u,(t,u)∈([(0,.slice (some ⟨g,0,none⟩) l.length cap),(6,.slice (some ⟨g,k0*20,none⟩) (l.length-k0) (cap-k0)),(1,.func (.func 13) #[] #[]),(5,.int .i64 (k:Nat)),(7,.int .i64 (d:Nat))]:List (Nat×Value))->a9.tmps.getD t undef=u)->RepD w9 (X.filter λx=>!(Nat.beq x g)) (.slice (some ⟨g,k0*20,none⟩) (l.length-k0) (cap-k0)) (.c (.sl 20 ((L.drop k0).map λp=>aY p)))->∀t v,ld t [(1,.c (.v (.func (.func 13) #[] #[]))),(6,.c (.sl 20 ((L.drop k0).map λp=>aY p))),(7,.int .i64 (d:Nat))]=some v->RepD w9 (X.filter λx=>!(Nat.beq x g)) (a9.tmps.getD t undef) v:=λk d L a9 w9 hks hvd t v hv=>by
   have ht:=ldk hv;simp only[xZ,List.map_nil,jA,List.not_mem_nil,or_false]at ht;rcases ht with rfl|rfl|rfl
   .rw[hks 1 _ (.tail _ (.tail _ (.head _)))];have e:=UU (show some (AV.c (.v (.func (.func 13) #[] #[])))=some v from hv);subst e;exact .c (.v _ rfl)
   .rw[hks 6 _ (.tail _ (.head _))];have e:=UU (show some (AV.c (.sl 20 ((L.drop k0).map λp=>aY p)))=some v from hv);subst e;exact hvd
   .rw[hks 7 _ (.tail _ (.tail _ (.tail _ (.tail _ (.head _)))))];have e:=UU (show some (AV.int .i64 (d:Nat))=some v from hv);subst e;exact .c (.v _ rfl)
  have vw:∀(S:List Bx) (M:MM) (a9:Act) (w9:World) (k d:Nat) (L:List Pnt),L.length=l.length->@Sta ⟨[(0,.slice (some ⟨g,0,none⟩) l.length cap),(6,.slice (some ⟨g,k0*20,none⟩) (l.length-k0) (cap-k0))],[]⟩ ⟨[g]⟩ 66 w (X.filter λx=>!(Nat.beq x g)) S M a9 w9 [(0,.gs 0 l.length),(1,.c (.v (.func (.func 13) #[] #[]))),(5,.int .i64 (k:Nat)),(7,.int .i64 (d:Nat))] [(0,.grow 37 20 (L.map λp=>aY p))]->(∀t u,(t,u)∈([(0,.slice (some ⟨g,0,none⟩) l.length cap),(6,.slice (some ⟨g,k0*20,none⟩) (l.length-k0) (cap-k0)),(1,.func (.func 13) #[] #[]),(5,.int .i64 (k:Nat)),(7,.int .i64 (d:Nat))]:List (Nat×Value))->a9.tmps.getD t undef=u)/\(∀m∈(X.filter λx=>!(Nat.beq x g)),m<w9.heap.size)/\RepD w9 (X.filter λx=>!(Nat.beq x g)) (.slice (some ⟨g,k0*20,none⟩) (l.length-k0) (cap-k0)) (.c (.sl 20 ((L.drop k0).map λp=>aY p))):=λS M a9 w9 k d L hLl hst=>by
   letI K6:Kp:=⟨[(0,.slice (some ⟨g,0,none⟩) l.length cap),(6,.slice (some ⟨g,k0*20,none⟩) (l.length-k0) (cap-k0))],[]⟩
   have u0:a9.tmps.getD 0 undef=.slice (some ⟨g,0,none⟩) l.length cap:=hst.df.1.2 0 _ (.head _);have u6:a9.tmps.getD 6 undef=.slice (some ⟨g,k0*20,none⟩) (l.length-k0) (cap-k0):=hst.df.1.2 6 _ (.tail _ (.head _));have u1:a9.tmps.getD 1 undef=.func (.func 13) #[] #[]:=(hst.env 1 _ rfl).v_;have u5:a9.tmps.getD 5 undef=.int .i64 (k:Nat):=(hst.env 5 _ rfl).v_;have u7:a9.tmps.getD 7 undef=.int .i64 (d:Nat):=(hst.env 7 _ rfl).v_;refine⟨λt u h=>?_,λm hm=>Ea (hX m (yS.1 hm).1) hst.ms.st.below.size, ?_⟩
   .simp only[jA,ou,List.not_mem_nil,or_false]at h;rcases h with⟨rfl,rfl⟩|⟨rfl,rfl⟩|⟨rfl,rfl⟩|⟨rfl,rfl⟩|⟨rfl,rfl⟩<;>assumption
   .obtain⟨mm,hM,q1,q2,q3,q4,q5,q6⟩:=hst.box 0 _ rfl;have hv:=hst.env 0 _ rfl;rw[u0]at hv;cases hv with
    |d hd=>cases hd
    |gs hm' _ _ hh _ =>
    rw[hM]at hm';cases hm';have he:=hh (by rw[q5,bW];exact hLl);unfold hdr at he;rcases q6 with⟨g1,_,g3⟩|⟨g',uss',rest',g1,g2,g3,g4,g5,g6⟩
    .rw[g1]at he;cases he
    rw[g1]at he;simp only[vI,Value.slice.injEq,qH,Addr.mk.injEq]at he;obtain⟨⟨rfl,_⟩,_,hcap⟩:=he;have hrow:=hst.row hM q2 g1;rw[g2]at hrow;have hxf:g ∉ (X.filter λx=>!(Nat.beq x g)):=λh=>by have:=(yS.1 h).2;simp at this
    rw[List.map_drop];exact SL g3 (λe he=>by obtain⟨p,_,rfl⟩:=iV.1 he;rfl) (n:=l.length) (by rw[bW];exact hLl.symm) ω hn (by unfold maxLen at hcm;omega) (λx hx=>qP _ hx) hrow hxf
  refine WX (λa w1=>∃(j:Nat) (L:List Pnt),L.length=l.length/\j<l.length/\L.take j=xI pE l/\@Conc ⟨[(0,.slice (some ⟨g,0,none⟩) l.length cap)],[]⟩ ⟨[g]⟩ 66 w (X.filter λx=>!(Nat.beq x g)) [(0,.gs 0 l.length),(5,.int .i64 (j:Nat))] [(0,.grow 37 20 (L.map λp=>aY p))] a w1) ?_ (λa1 w1 hJ=>?_)
  rotate_left
  .clear hc7 vw;obtain⟨j,L,hL1,hL2,hL3,hc2⟩:=hJ;obtain⟨S,M,hst⟩:=hc2;obtain⟨m,hM,q1,q2,q3,q4,q5,q6⟩:=hst.box 0 _ rfl;have hv:=hst.env 0 _ rfl;have hu0:a1.tmps.getD 0 undef=.slice (some ⟨g,0,none⟩) l.length cap:=by have h:=hst.df.1.2 0 _ (pI.2 rfl);(try rw[bW]at h);exact h
   have h5:a1.tmps.getD 5 undef=.int .i64 (j:Nat):=(hst.env 5 _ rfl).v_;rw[hu0]at hv;cases hv with
   |d hd=>cases hd
   |gs hm' _ _ hh _ =>
   rw[hM]at hm';cases hm';have he:=hh (by rw[q5,bW];exact hL1);unfold hdr at he;rcases q6 with⟨g1,_,g3⟩|⟨g',uss',rest',g1,g2,g3,g4,g5,g6⟩
   .rw[g1]at he;cases he
   rw[g1]at he;simp only[vI,Value.slice.injEq,qH,Addr.mk.injEq]at he;obtain⟨⟨rfl,_⟩,_,hcap⟩:=he;have hrow:=hst.row hM q2 g1;have hsz:m.us.toArray.size=cap*20:=by rw[Yx,<-g4,<-hcap]
   have hlc:l.length<=cap:=by(try rw[bW]at hn);exact hn
   have hgr:=qO hst.ms.st.below;obtain⟨_,hsl,_⟩:=sliceT (bU dJ (t:=43) rfl);have hFm:Frm 66 a1 [(0,.slice (some ⟨g,0,none⟩) l.length cap),(5,.int .i64 (j:Nat))]:=((show Frm 66 a1 []from⟨hst.sz,hst.df.1.1,λt v h=>by simp[lk]at h⟩).cons h5).cons hu0;refine bI (bK (wp1 rfl (bT (hFm.ev rfl)) ?_));replace hFm:=hFm.put (d:=59) ψ (.slice (some ⟨g,0,none⟩) l.length cap);refine wp1 rfl (bT (hFm.ev rfl)) ?_;replace hFm:=hFm.put (d:=60) ψ (.int .i64 (j:Nat));refine wp1 rfl (qw (j:=j) hsl (hFm.ev rfl) (hFm.ev rfl) rfl hL2 hlc) ?_;replace hFm:=hFm.put (d:=61) ψ (.slice (some ⟨g,j*20,none⟩) (l.length-j) (cap-j));have hob:j*20+(l.length-j)*20<=m.us.toArray.size:=by rw[hsz];omega
   obtain⟨zs,hz1,hz2⟩:=yX (P:=prog) (ty:=0) (t:=43) (s:=20) (n:=l.length-j) (o:=j*20) (c:=cap-j) underlying43 zeroValue37 rfl (λv hv=>oH.1 (by rfl:(List.all _ λv:Value=>v.oneCell')=true) v hv) hrow ω hob;have h38:=hFm.ev (x:=.tmp 61) rfl
   refine wp1 (u:=.tuple #[]) (w':=w1.setRow g (m.us.toArray.toList.take (j*20)++zs++m.us.toArray.toList.drop (j*20+zs.length)).toArray) rfl (by
    simp only[execOp,resolve,invoke,builtin,List.map_toArray,xZ,List.map_nil,h38,Sem.run_bind,Sem.run_pure,Result.andThen_ok];rw[hz2]
    simp) ?_
   have hgr2:=jm w1 g (m.us.toArray.toList.take (j*20)++zs++m.us.toArray.toList.drop (j*20+zs.length)).toArray;have hnew:(w1.setRow g (m.us.toArray.toList.take (j*20)++zs++m.us.toArray.toList.drop (j*20+zs.length)).toArray).heap[g]?=some (.cells (m.us.toArray.toList.take (j*20)++zs++m.us.toArray.toList.drop (j*20+zs.length)).toArray m.T (0,0)):=setRow_heap w1 g _ _ _ _ hrow
   have htk:(m.us.toArray.toList.take (j*20)++zs++m.us.toArray.toList.drop (j*20+zs.length)).toArray.toList.take (j*20)=(uss'.take j).flatten:=by
    have hl0:(m.us.toArray.toList.take (j*20)).length=j*20:=by rw[xB,qbK];omega
    rw[Yf,S9,List.take_append_of_le_length ω,MV ω,Yf,g2];exact zx g3.sz (by rw[g3.len,bW];omega)
   generalize(m.us.toArray.toList.take (j*20)++zs++m.us.toArray.toList.drop (j*20+zs.length)).toArray=cs2 at hgr2 hnew htk;have hin:g∈bl S:=iV.2 ⟨_,hst.ms.inS 0 m hM q2 _ g1,rfl⟩;have hxf:g ∉ X.filter (λx=>!(Nat.beq x g)):=λh=>by have:=(yS.1 h).2;simp at this
   have hext:Ext w1 (bl S++X.filter (λx=>!(Nat.beq x g))) (w1.setRow g cs2) (X.filter (λx=>!(Nat.beq x g))):=⟨hgr2.size,λk hk hx _=>⟨hgr2.block k hk (λe=>hx (yQ _ (by cases e;exact hin))),λh=>hx (qP _ h)⟩⟩
   have hfin:=JC g3 (λe he=>by obtain⟨p,_,rfl⟩:=iV.1 he;rfl) (i:=j) (by rw[bW];omega) (show j<=cap by omega) (by unfold maxLen at hcm;omega) hext hnew hxf htk;rw[<-List.map_take,hL3]at hfin;generalize w1.setRow g cs2=w2 at hgr2 hfin;refine(show Exit.then _ _ .normal _ _ from dW (bI (bK ?_)));refine wp1 rfl (bT (hFm.ev rfl)) ?_;replace hFm:=hFm.put (d:=62) ψ (.slice (some ⟨g,0,none⟩) l.length cap);refine wp1 rfl (bT (hFm.ev rfl)) ?_;replace hFm:=hFm.put (d:=63) ψ (.int .i64 (j:Nat));refine wp1 rfl (oZ (j:=j) hsl (hFm.ev rfl) (hFm.ev rfl) rfl (show j<=cap by omega)) ?_;replace hFm:=hFm.put (d:=64) ψ (.slice (some ⟨g,0,none⟩) j cap);refine wp1 rfl (jF (hFm.ev rfl)) ?_;replace hFm:=hFm.put (d:=4) ψ (.slice (some ⟨g,0,none⟩) j cap);refine(show Exit.then _ _ .normal _ _ from dW (tV ?_));refine Js rfl hFm.defers (kP hFm rfl) ⟨_,rfl,.d hfin,⟨hgr2.os.trans hgr.os,hgr2.tape.trans hgr.tape,hgr2.output.trans hgr.output,fZ hgr.size hgr2.size,λk hk hne=>(hgr2.block k (Ea hk hgr.size) hne).trans (hgr.block k hk hne)⟩⟩
  .letI K6:Kp:=⟨[(0,.slice (some ⟨g,0,none⟩) l.length cap),(6,.slice (some ⟨g,k0*20,none⟩) (l.length-k0) (cap-k0))],[]⟩
   refine bI ?_;refine iL (τ:=tab) dJ dF _ (QA:=λz e9 b9=>z=.normal/\SubE [(0,.gs 0 l.length),(1,.c (.v (.func (.func 13) #[] #[]))),(5,.int .i64 (k0:Nat)),(7,.int .i64 (1:Nat))] e9/\SubB [(0,.grow 37 20 (l.map λp=>aY p))] b9) ((iO (k1:=⟨[(0,.slice (some ⟨g,0,none⟩) l.length cap),(6,.slice (some ⟨g,k0*20,none⟩) (l.length-k0) (cap-k0))],[]⟩) (k2:=⟨[(0,undef),(6,undef)],[]⟩) rfl 66 _).trans ζ) ?_ hc7 (λx e b a8 w8 hx hc8=>?_)
   .clear hc7 vw
    all_goals(try simp only[bW,dI]at *)
    all_goals first|(show SubE _ _;repeat'(first|exact trivial|refine And.intro ?_ ?_))|(show SubB _ _;repeat'(first|exact trivial|refine And.intro ?_ ?_))|skip
    all_goals first
     |trivial
   obtain⟨rfl,h1,h2⟩:=hx;replace hc8:=hc8.sub h1 h2;clear hc7 h1 h2;refine dW (iK (uQ (λn a w1=>∃(k m:Nat) (L:List Pnt),n=l.length-m/\CpJ pE l k m L/\(∀p∈L,PB p)/\k0<m/\@Conc ⟨[(0,.slice (some ⟨g,0,none⟩) l.length cap),(6,.slice (some ⟨g,k0*20,none⟩) (l.length-k0) (cap-k0))],[]⟩ ⟨[g]⟩ 66 w (X.filter λx=>!(Nat.beq x g)) [(0,.gs 0 l.length),(1,.c (.v (.func (.func 13) #[] #[]))),(5,.int .i64 (k:Nat)),(7,.int .i64 ((m-k0):Nat))] [(0,.grow 37 20 (L.map λp=>aY p))] a w1) ⟨_,k0,k0+1,l,rfl,CpJ.start h0 hk0 hcp hyes,hl,ω,by rw[show k0+1-k0=1 by omega];exact hc8⟩ (λn a3 w3 hI=>?_)));clear hc8;obtain⟨k,m,L,rfl,hJ,hL,hm,S,M,hst⟩:=hI;have hJl:=hJ.len;have hJk:=hJ.km;have hJm:=hJ.mn;refine bI ?_;obtain⟨hks,hX1,hvd⟩:=vw _ _ _ _ k (m-k0) L hJl hst;refine BM (τ:=tab) dJ dF hst (e1:=[(1,.c (.v (.func (.func 13) #[] #[]))),(6,.c (.sl 20 ((L.drop k0).map λp=>aY p))),(7,.int .i64 ((m-k0):Nat))]) ([(0,.slice (some ⟨g,0,none⟩) l.length cap),(6,.slice (some ⟨g,k0*20,none⟩) (l.length-k0) (cap-k0)),(1,.func (.func 13) #[] #[]),(5,.int .i64 (k:Nat)),(7,.int .i64 ((m-k0):Nat))]:List (Nat×Value)) hks kl6 ke6 hX1 (he6 _ _ _ _ _ hks hvd) (WOk.of trivial) _ (QA:=λz e9 b9=>(z=.normal/\m<l.length)\/(z=.exit 2/\¬m<l.length)) ((iO (k1:=⟨([(0,.slice (some ⟨g,0,none⟩) l.length cap),(6,.slice (some ⟨g,k0*20,none⟩) (l.length-k0) (cap-k0)),(1,.func (.func 13) #[] #[]),(5,.int .i64 (k:Nat)),(7,.int .i64 ((m-k0):Nat))]:List (Nat×Value)),[]⟩) (k2:=⟨[(0,undef),(6,undef),(1,undef),(5,undef),(7,undef)],[]⟩) rfl 66 _).trans ζ) ?_ (λx e9 b9 a4 w4 hq hst4 hcf=>?_)
   .clear hks hX1 hvd vw he6 ke6 kl6;have hdl:(L.drop k0).length=l.length-k0:=by rw[List.length_drop,hJl]
    all_goals(repeat'((try(conv=>whnf));first
     |(with_reducible refine aO (λ_=>?_) (λ_=>?_))))
    all_goals(try simp only[bW,dI]at *)
    all_goals first|(show SubE _ _;repeat'(first|exact trivial|refine And.intro ?_ ?_))|(show SubB _ _;repeat'(first|exact trivial|refine And.intro ?_ ?_))|skip
    all_goals first
     |exact .inl ⟨rfl,ω⟩|exact .inr ⟨rfl,ω⟩
   rcases hq with⟨rfl,hlt⟩|⟨rfl,hge⟩
   rotate_left
   .obtain⟨hf1,hf2⟩:=hJ.fin hge;refine rZ (rZ (EX (dW ⟨k,L,hJ.len,ω,hf1, ?_⟩)))
    exact WO (P:=prog) (show @Conc ⟨[(0,.slice (some ⟨g,0,none⟩) l.length cap)],[]⟩ ⟨[g]⟩ 66 w (X.filter λx=>!(Nat.beq x g)) [(0,.gs 0 l.length),(1,.c (.v (.func (.func 13) #[] #[]))),(5,.int .i64 (k:Nat)),(7,.int .i64 ((m-k0):Nat))] [(0,.grow 37 20 (L.map λp=>aY p))] _ _ from⟨S,M,hst4.keepG [(0,.slice (some ⟨g,0,none⟩) l.length cap)] (λt u h=>by
     rw[pI]at h;cases h
     exact hst4.df.1.2 0 _ (.head _))⟩) ⟨rfl,rfl,trivial⟩ ⟨rfl,trivial⟩
   clear hcf hks hX1 hvd hst;refine dW (WX (λa w1=>∃(k2:Nat) (L2:List Pnt),CpJ pE l k2 (m+1) L2/\(∀p∈L2,PB p)/\@Conc ⟨[(0,.slice (some ⟨g,0,none⟩) l.length cap),(6,.slice (some ⟨g,k0*20,none⟩) (l.length-k0) (cap-k0))],[]⟩ ⟨[g]⟩ 66 w (X.filter λx=>!(Nat.beq x g)) [(0,.gs 0 l.length),(1,.c (.v (.func (.func 13) #[] #[]))),(5,.int .i64 (k2:Nat)),(7,.int .i64 ((m-k0):Nat))] [(0,.grow 37 20 (L2.map λp=>aY p))] a w1) ?_ (λa8 w8 hK=>?_))
   rotate_left
   .obtain⟨k2,L2,hJ2,hL2,hc9⟩:=hK;refine iL (τ:=tab) dJ dF _ (QA:=λz e9 b9=>z=.normal/\SubE [(0,.gs 0 l.length),(1,.c (.v (.func (.func 13) #[] #[]))),(5,.int .i64 (k2:Nat)),(7,.int .i64 ((m+1-k0):Nat))] e9/\SubB [(0,.grow 37 20 (L2.map λp=>aY p))] b9) ((iO (k1:=⟨[(0,.slice (some ⟨g,0,none⟩) l.length cap),(6,.slice (some ⟨g,k0*20,none⟩) (l.length-k0) (cap-k0))],[]⟩) (k2:=⟨[(0,undef),(6,undef)],[]⟩) rfl 66 _).trans ζ) ?_ hc9 (λx e b a10 w10 hx hc10=>?_)
    .clear hc9 vw he6 ke6 kl6
     all_goals(try simp only[bW,dI]at *)
     all_goals first|(show SubE _ _;repeat'(first|exact trivial|refine And.intro ?_ ?_))|(show SubB _ _;repeat'(first|exact trivial|refine And.intro ?_ ?_))|skip
     all_goals first
      |exact⟨rfl,⟨rfl,rfl,rfl,(show some (AV.int .i64 _)=some (AV.int .i64 _)from by first|exact zaj|exact zak),trivial⟩,⟨rfl,trivial⟩⟩
    .obtain⟨rfl,h1,h2⟩:=hx;exact dW ⟨_,ω,k2,m+1,L2,rfl,hJ2,hL2,ω,hc10.sub h1 h2⟩
   refine iK (bI ?_);obtain⟨hks,hX1,hvd⟩:=vw _ _ _ _ k (m-k0) L hJl hst4;refine BM (τ:=tab) dJ dF hst4 (e1:=[(1,.c (.v (.func (.func 13) #[] #[]))),(6,.c (.sl 20 ((L.drop k0).map λp=>aY p))),(7,.int .i64 ((m-k0):Nat))]) ([(0,.slice (some ⟨g,0,none⟩) l.length cap),(6,.slice (some ⟨g,k0*20,none⟩) (l.length-k0) (cap-k0)),(1,.func (.func 13) #[] #[]),(5,.int .i64 (k:Nat)),(7,.int .i64 ((m-k0):Nat))]:List (Nat×Value)) hks kl6 ke6 hX1 (he6 _ _ _ _ _ hks hvd) (WOk.of trivial) _ (QA:=λz e9 b9=>z=.normal/\SubE [(49,.bool (!pE (L.getD m O0) (L.getD (m-1) O0)))] e9) ((iO (k1:=⟨([(0,.slice (some ⟨g,0,none⟩) l.length cap),(6,.slice (some ⟨g,k0*20,none⟩) (l.length-k0) (cap-k0)),(1,.func (.func 13) #[] #[]),(5,.int .i64 (k:Nat)),(7,.int .i64 ((m-k0):Nat))]:List (Nat×Value)),[]⟩) (k2:=⟨[(0,undef),(6,undef),(1,undef),(5,undef),(7,undef)],[]⟩) rfl 66 _).trans ζ) ?_ (λx e9 b9 a5 w5 hq hst5 hcf=>?_)
   .clear hks hX1 hvd vw he6 ke6 kl6;have hdl:(L.drop k0).length=l.length-k0:=by rw[List.length_drop,hJl]
    all_goals(repeat'((try(conv=>whnf));first
     |refine ak ?_ ?_|refine zac ζ ?_|refine aT O0 ?_ ?_))
    all_goals(try apply zab)
    all_goals(try simp only[bW,dI]at *)
    all_goals(try simp(disch:=omega) only[bG,jB,dI,bW,kG]at *)
    all_goals first|(show SubE _ _;repeat'(first|exact trivial|refine And.intro ?_ ?_))|(show SubB _ _;repeat'(first|exact trivial|refine And.intro ?_ ?_))|skip
    all_goals first
     |omega|exact⟨bP (λp hp=>hL p (List.mem_of_mem_drop hp)) (by simp only[List.length_drop];omega),bP (λp hp=>hL p (List.mem_of_mem_drop hp)) (by simp only[List.length_drop];omega)⟩|(refine⟨trivial,⟨?_,trivial⟩⟩;show some (AV.bool _)=some (AV.bool _);simp only[Ld,jB,dI];rw[show k0+(m-k0)=m by omega,show k0+(m-k0-1)=m-1 by omega];done)
   obtain⟨rfl,h1⟩:=hq
   have h49:a5.tmps.getD 49 undef=.bool (!pE (L.getD m O0) (L.getD (m-1) O0)):=by
    letI K9:Kp:=⟨([(0,.slice (some ⟨g,0,none⟩) l.length cap),(6,.slice (some ⟨g,k0*20,none⟩) (l.length-k0) (cap-k0)),(1,.func (.func 13) #[] #[]),(5,.int .i64 (k:Nat)),(7,.int .i64 ((m-k0):Nat))]:List (Nat×Value)),[]⟩
    exact Conc.get hcf h1.1 (λ_ _ _ h=>by cases h)
   clear hcf hks hX1 hvd h1;refine dW (iY ((show Frm 66 a5 []from⟨hst5.sz,hst5.df.1.1,λt v h=>by simp[lk]at h⟩).cons h49) rfl (λhb=>?_) (λhb=>?_))
   rotate_left
   .rw[(hJ.get (d:=O0)).1,(hJ.get (d:=O0)).2]at hb;exact jo (uq (dW ⟨k,L,hJ.no (d:=O0) hlt (ajL hb),hL,S,M,hst5⟩))
   obtain⟨hks,_,_⟩:=vw _ _ _ _ k (m-k0) L hJl hst5;clear vw he6 ke6 kl6;have hF:Frm 66 a5 [(0,.slice (some ⟨g,0,none⟩) l.length cap),(6,.slice (some ⟨g,k0*20,none⟩) (l.length-k0) (cap-k0)),(1,.func (.func 13) #[] #[]),(5,.int .i64 (k:Nat)),(7,.int .i64 ((m-k0):Nat))]:=((((((show Frm 66 a5 []from⟨hst5.sz,hst5.df.1.1,λt v h=>by simp[lk]at h⟩).cons (hks 7 _ (.tail _ (.tail _ (.tail _ (.tail _ (.head _))))))).cons (hks 5 _ (.tail _ (.tail _ (.tail _ (.head _)))))).cons (hks 1 _ (.tail _ (.tail _ (.head _))))).cons (hks 6 _ (.tail _ (.head _)))).cons (hks 0 _ (.head _)))
   refine bI (bK (wp1 rfl (bT (hF.ev rfl)) ?_));replace hF:=hF.put (d:=50) ψ (.slice (some ⟨g,0,none⟩) l.length cap);refine wp1 rfl (bT (hF.ev rfl)) ?_;replace hF:=hF.put (d:=51) ψ (.int .i64 (k:Nat));refine wp1 rfl (bT (hF.ev rfl)) ?_;replace hF:=hF.put (d:=52) ψ (.slice (some ⟨g,k0*20,none⟩) (l.length-k0) (cap-k0));refine wp1 rfl (bT (hF.ev rfl)) ?_;replace hF:=hF.put (d:=53) ψ (.int .i64 ((m-k0):Nat));refine wp1 rfl (acd (j:=(m-k0)) hsl (hF.ev rfl) rfl (hF.ev rfl) rfl ω) ?_;replace hF:=hF.put (d:=54) ψ (.pointer (some ((⟨g,k0*20,none⟩:Addr).add ((m-k0)*20))))
   have hb6 : @Sta ⟨[(0,.slice (some ⟨g,0,none⟩) l.length cap),(6,.slice (some ⟨g,k0*20,none⟩) (l.length-k0) (cap-k0))],[]⟩ ⟨[g]⟩ 66 w (X.filter λx=>!(Nat.beq x g)) S M _ _ [(0,.gs 0 l.length),(1,.c (.v (.func (.func 13) #[] #[]))),(5,.int .i64 (k:Nat)),(7,.int .i64 ((m-k0):Nat))] [(0,.grow 37 20 (L.map λp=>aY p))]:=hst5.moveG hF.size hF.defers (λt u h=>by
    have h:(t,u)∈([(0,.slice (some ⟨g,0,none⟩) l.length cap),(6,.slice (some ⟨g,k0*20,none⟩) (l.length-k0) (cap-k0))]:List (Nat×Value)):=h;simp only[jA,ou,List.not_mem_nil,or_false]at h;rcases h with⟨rfl,rfl⟩|⟨rfl,rfl⟩
    .exact hF.get 0 _ rfl
    .exact hF.get 6 _ rfl) (λt v hv=>by
    have ht:=ldk hv;simp only[xZ,List.map_nil,jA,List.not_mem_nil,or_false]at ht;rcases ht with rfl|rfl|rfl|rfl
    .exact(hF.get 0 _ rfl).trans (hks 0 _ (.head _)).symm
    .exact(hF.get 1 _ rfl).trans (hks 1 _ (.tail _ (.tail _ (.head _)))).symm
    .exact(hF.get 5 _ rfl).trans (hks 5 _ (.tail _ (.tail _ (.tail _ (.head _))))).symm
    .exact(hF.get 7 _ rfl).trans (hks 7 _ (.tail _ (.tail _ (.tail _ (.tail _ (.head _)))))).symm)
   have w50:=hF.get 50 _ rfl;have w51:=hF.get 51 _ rfl;have w54:=hF.get 54 _ rfl;have w0:=hF.get 0 _ rfl;clear hF hks hst5 h49;have hv0:=hb6.env 0 _ rfl;obtain⟨mm,hM,q1,q2,q3,q4,q5,q6⟩:=hb6.box 0 _ rfl;have hv:=hb6.env 0 _ rfl;rw[w0]at hv;cases hv with
   |d hd=>cases hd
   |gs hm' _ _ hh _ =>
   rw[hM]at hm';cases hm';have he:=hh (by rw[q5,bW];exact hJl);unfold hdr at he;rcases q6 with⟨g1,_,g3⟩|⟨g',uss',rest',g1,g2,g3,g4,g5,g6⟩
   .rw[g1]at he;cases he
   rw[g1]at he;simp only[vI,Value.slice.injEq,qH,Addr.mk.injEq]at he;obtain⟨⟨rfl,_⟩,_,hcap⟩:=he;rw[w0]at hv0
   have hc12:=(⟨S,M,((hb6.addG (t:=51) (v:=.int .i64 (k:Nat)) (by rw[w51];exact .d (.c (.v _ rfl)))).addG (t:=50) (v:=.gs 0 l.length) (by rw[w50];exact hv0)).addG (t:=54) (v:=.pe 0 l.length m 0) (by
    rw[w54];refine .pe hM q1 (by rw[q5,bW];omega) λ_=>⟨g,g1, ?_⟩
    rw[q4.1];unfold Addr.add;rw[if_neg ω];simp only[Value.pointer.injEq,qH,Addr.mk.injEq,and_true,true_and]
    omega)⟩ : @Conc ⟨[(0,.slice (some ⟨g,0,none⟩) l.length cap),(6,.slice (some ⟨g,k0*20,none⟩) (l.length-k0) (cap-k0))],[]⟩ ⟨[g]⟩ 66 w (X.filter λx=>!(Nat.beq x g)) [(54,.pe 0 l.length m 0),(50,.gs 0 l.length),(51,.int .i64 (k:Nat)),(0,.gs 0 l.length),(1,.c (.v (.func (.func 13) #[] #[]))),(5,.int .i64 (k:Nat)),(7,.int .i64 ((m-k0):Nat))] [(0,.grow 37 20 (L.map λp=>aY p))] _ _)
   clear hv0 hb6 w50 w51 w54 w0;refine aae ?_;refine GL (k:=λe b=>SubE [(0,.gs 0 l.length),(1,.c (.v (.func (.func 13) #[] #[]))),(5,.int .i64 (k:Nat)),(7,.int .i64 ((m-k0):Nat))] e/\SubB [(0,.grow 37 20 ((L.set k (L.getD m O0)).map λp=>aY p))] b) dJ (λe9 b9 a9 w9 hq hc9=>?_) ζ ?_ hc12
   rotate_left
   .clear hc12
    all_goals(repeat'((try(conv=>whnf));first
     |refine aK ?_ ?_|refine aT O0 ?_ ?_))
    all_goals(try apply zab)
    all_goals(try simp only[bW,dI]at *)
    all_goals first|(show SubE _ _;repeat'(first|exact trivial|refine And.intro ?_ ?_))|(show SubB _ _;repeat'(first|exact trivial|refine And.intro ?_ ?_))|skip
    all_goals first
     |omega|exact⟨⟨rfl,rfl,rfl,rfl,trivial⟩,⟨(by show some (Bk.grow _ _ _)=some (Bk.grow _ _ _);rw[List.map_set]),trivial⟩⟩
   replace hc9:=hc9.sub hq.1 hq.2;clear hc12 hq;refine aV ?_;refine iL (τ:=tab) dJ dF _ (QA:=λz e9 b9=>z=.normal/\SubE [(0,.gs 0 l.length),(1,.c (.v (.func (.func 13) #[] #[]))),(5,.int .i64 ((k+1):Nat)),(7,.int .i64 ((m-k0):Nat))] e9/\SubB [(0,.grow 37 20 ((L.set k (L.getD m O0)).map λp=>aY p))] b9) ((iO (k1:=⟨[(0,.slice (some ⟨g,0,none⟩) l.length cap),(6,.slice (some ⟨g,k0*20,none⟩) (l.length-k0) (cap-k0))],[]⟩) (k2:=⟨[(0,undef),(6,undef)],[]⟩) rfl 66 _).trans ζ) ?_ hc9 (λx e b a10 w10 hx hc10=>?_)
   .clear hc9
    all_goals(try simp only[bW,dI]at *)
    all_goals first|(show SubE _ _;repeat'(first|exact trivial|refine And.intro ?_ ?_))|(show SubB _ _;repeat'(first|exact trivial|refine And.intro ?_ ?_))|skip
    all_goals first
     |exact⟨rfl,⟨rfl,rfl,(show some (AV.int .i64 _)=some (AV.int .i64 _)from by first|exact zaj|exact zak),rfl,trivial⟩,⟨rfl,trivial⟩⟩
   obtain⟨rfl,h1,h2⟩:=hx;exact uq (dW ⟨k+1,(L.set k (L.getD m O0)),hJ.yes (d:=O0) hlt (by rw[(hJ.get (d:=O0)).1,(hJ.get (d:=O0)).2]at hb;exact akQ hb),AZ hL (bP hL ω),hc10.sub h1 h2⟩)
theorem aaw(c d:Cv)(l:List Pnt){i:Nat}(Hc:PC c)(Hd:PC d)(hl:∀p∈l,PB p)(hn0:l.length<=16)(hi:zH (λp=>!Le c d p) l=(i:Nat))(hil:i<l.length)(hi1:∀j<i,(!Le c d (l.getD j O0))=false)(hi2:(!Le c d (l.getD i O0))=true):EW prog 26 37 20 (l.map λp=>aY p) [.c (.fn 28 [.p (dL c),.p (dL d)])] (.c (.sl 20 ((l.filter (Le c d)).map λp=>aY p))):=by
 refine⟨ζ,λw X g cap uss rest vs ho hX hgX hg hS hc hcm hn hs hl0 hR=>?_⟩
 letI G:Gr:=⟨[g]⟩
 letI K:Kp:=Vs (.slice (some ⟨g,0,none⟩) (l.map λp=>aY p).length cap)
 haveI:WOk prog w:=⟨λw' _=>trivial⟩
 refine enter func26 rfl rfl (by simp only[ji,hl0];rfl) λa hF=>?_
 have hcc:=uD hX hgX hg hS hc hcm hn hs hl0 hR hF;refine jI (τ:=tab) dJ dF 4 _ (QA:=λz e' bx=>z=.normal/\∃(j:Nat) (L:List Pnt),(L.length=l.length/\j<l.length/\L.take j=(l.filter (Le c d)))/\SubE [(0,.gs 0 l.length),(5,.int .i64 (j:Nat))] e'/\SubB [(0,.grow 37 20 (L.map λp=>aY p))] bx) (jy _ ζ) ?_ hcc (λe' b a1 w1 hq hc2=>?_) (λx e b a w hx hq hc=>absurd hq.1 hx)
 case refine_1 =>
  haveI ii:DenI prog 73 [.c (.sl 20 (l.map λp=>aY p)),.c (.fn 28 [.p (dL c),.p (dL d)])] True (.int .i64 (i:Nat)):=⟨λ_=>hi▸(adA c d l).den ⟨Hc,Hd,hl,ω⟩⟩
  clear hcc hF;rw[bW]
  all_goals(repeat'((try(conv=>whnf));first
   |refine aC ?_|refine ak ?_ ?_|refine aQ ?_ (λ_=>?_) (λ_=>?_)|(with_reducible first|refine aN ?_|refine aI ?_|refine aO (λ_=>?_) (λ_=>?_)|refine aP (λ_=>?_) (λ_=>?_))|refine zad (λ_=>?_) (λ_=>?_)|refine aK ?_ ?_|refine zac ζ ?_|refine aJ ?_ ?_|refine aH ?_ ?_|(with_reducible first|refine au ?_ ?_|refine aj ?_|refine aF ?_)|refine aT O0 ?_ ?_|apply zaa))
  all_goals(try apply zab)
  all_goals(try simp only[bW,dI]at *)
  all_goals first
   |((conv=>whnf);refine Sw.Loop.inv (α:=Nat×Nat×List Pnt) (λx=>[(0,.gs 0 l.length),(1,.c (.fn 28 [.p (dL c),.p (dL d)])),(5,.int .i64 (x.1:Nat)),(6,.int .i64 (x.2.1:Nat))]) (λx=>[(0,.grow 37 20 (x.2.2.map λp=>aY p))]) (λx=>DlJ (Le c d) l x.1 x.2.1 x.2.2/\∀p∈x.2.2,PB p) (λx=>l.length-x.2.1) (i,i+1,l) ?_ ?_ ?_ (λx ⟨hx1,hx2⟩=>?_))|skip
  all_goals(try(have hxl:=hx1.len;have hxj:=hx1.ij;have hxn:=hx1.jn))
  all_goals(repeat'((try(conv=>whnf));first
   |refine aC ?_|refine ak ?_ ?_|refine aQ ?_ (λ_=>?_) (λ_=>?_)|(with_reducible first|refine aN ?_|refine aI ?_|refine aO (λ_=>?_) (λ_=>?_)|refine aP (λ_=>?_) (λ_=>?_))|refine zad (λ_=>?_) (λ_=>?_)|refine aK ?_ ?_|refine zac ζ ?_|refine aJ ?_ ?_|refine aH ?_ ?_|(with_reducible first|refine au ?_ ?_|refine aj ?_|refine aF ?_)|refine aT O0 ?_ ?_|apply zaa))
  all_goals(try apply zab)
  all_goals(try simp only[bW,dI]at *)
  all_goals(try simp(disch:=omega) only[bG,jB,dI,bW,kG]at *)
  all_goals(repeat'((try(conv=>whnf));first
   |refine aC ?_|refine ak ?_ ?_|refine aQ ?_ (λ_=>?_) (λ_=>?_)|(with_reducible first|refine aN ?_|refine aI ?_|refine aO (λ_=>?_) (λ_=>?_)|refine aP (λ_=>?_) (λ_=>?_))|refine zad (λ_=>?_) (λ_=>?_)|refine aK ?_ ?_|refine zac ζ ?_|refine aJ ?_ ?_|refine aH ?_ ?_|(with_reducible first|refine au ?_ ?_|refine aj ?_|refine aF ?_)|refine aT O0 ?_ ?_|apply zaa))
  all_goals(try apply zab)
  all_goals(try simp only[bW,dI]at *)
  all_goals(try simp(disch:=omega) only[bG,jB,dI,bW,kG]at *)
  all_goals(repeat'((try(conv=>whnf));first
   |refine aC ?_|refine ak ?_ ?_|refine aQ ?_ (λ_=>?_) (λ_=>?_)|(with_reducible first|refine aN ?_|refine aI ?_|refine aO (λ_=>?_) (λ_=>?_)|refine aP (λ_=>?_) (λ_=>?_))|refine zad (λ_=>?_) (λ_=>?_)|refine aK ?_ ?_|refine zac ζ ?_|refine aJ ?_ ?_|refine aH ?_ ?_|(with_reducible first|refine au ?_ ?_|refine aj ?_|refine aF ?_)|refine G9 ?_ ?_|refine aT O0 ?_ ?_|apply zaa))
  all_goals(try apply zab)
  all_goals(try simp only[bW,dI]at *)
  all_goals(try simp(disch:=omega) only[bG,jB,dI,bW,kG]at *)
  all_goals first|(show SubE _ _;repeat'(first|exact trivial|refine And.intro ?_ ?_))|(show SubB _ _;repeat'(first|exact trivial|refine And.intro ?_ ?_))|skip
  all_goals(try rfl)
  all_goals first
   |rfl|omega|trivial|(exfalso;omega)|exact⟨DlJ.start hil (λj hj=>by simpa using hi1 j hj) (by simpa using hi2),hl⟩|exact⟨Hc,Hd,bP hx2 ω⟩|(rename_i hk _;((conv=>whnf);exact⟨(x.1+1,x.2.1+1,x.2.2.set x.1 (x.2.2.getD x.2.1 O0)),⟨⟨rfl,rfl,(show some (AV.int .i64 _)=some (AV.int .i64 _)from by first|exact zaj|exact zak),(show some (AV.int .i64 _)=some (AV.int .i64 _)from by first|exact zaj|exact zak),trivial⟩,⟨(by show some (Bk.grow _ _ _)=some (Bk.grow _ _ _);rw[List.map_set]),trivial⟩,⟨hx1.yes ω (by rw[<-hx1.get (d:=O0)];simpa using hk),AZ hx2 (bP hx2 ω)⟩,by show l.length-(x.2.1+1)<l.length-x.2.1;omega⟩⟩))|(rename_i hk;((conv=>whnf);exact⟨(x.1+1,x.2.1+1,x.2.2.set x.1 (x.2.2.getD x.2.1 O0)),⟨⟨rfl,rfl,(show some (AV.int .i64 _)=some (AV.int .i64 _)from by first|exact zaj|exact zak),(show some (AV.int .i64 _)=some (AV.int .i64 _)from by first|exact zaj|exact zak),trivial⟩,⟨(by show some (Bk.grow _ _ _)=some (Bk.grow _ _ _);rw[List.map_set]),trivial⟩,⟨hx1.yes ω (by rw[<-hx1.get (d:=O0)];simpa using hk),AZ hx2 (bP hx2 ω)⟩,by show l.length-(x.2.1+1)<l.length-x.2.1;omega⟩⟩))|(rename_i hk _;((conv=>whnf);exact⟨(x.1,x.2.1+1,x.2.2),⟨⟨rfl,rfl,rfl,(show some (AV.int .i64 _)=some (AV.int .i64 _)from by first|exact zaj|exact zak),trivial⟩,⟨rfl,trivial⟩,⟨hx1.no ω (by rw[<-hx1.get (d:=O0)];simpa using hk),hx2⟩,by show l.length-(x.2.1+1)<l.length-x.2.1;omega⟩⟩))|(rename_i hk;((conv=>whnf);exact⟨(x.1,x.2.1+1,x.2.2),⟨⟨rfl,rfl,rfl,(show some (AV.int .i64 _)=some (AV.int .i64 _)from by first|exact zaj|exact zak),trivial⟩,⟨rfl,trivial⟩,⟨hx1.no ω (by rw[<-hx1.get (d:=O0)];simpa using hk),hx2⟩,by show l.length-(x.2.1+1)<l.length-x.2.1;omega⟩⟩))|((conv=>whnf);exact⟨rfl,x.1,x.2.2,⟨hxl,ω,(hx1.fin ω).1⟩,⟨rfl,rfl,trivial⟩,⟨rfl,trivial⟩⟩)|skip
 obtain⟨hz0,j,L,⟨hL1,hL2,hL3⟩,hE,hB⟩:=hq;replace hc2:=hc2.sub hE hB;obtain⟨S,M,hst⟩:=hc2;obtain⟨m,hM,q1,q2,q3,q4,q5,q6⟩:=hst.box 0 _ rfl;have hv:=hst.env 0 _ rfl;have hu0:a1.tmps.getD 0 undef=.slice (some ⟨g,0,none⟩) l.length cap:=by have h:=hst.df.1.2 0 _ (pI.2 rfl);(try rw[bW]at h);exact h
 have h5:a1.tmps.getD 5 undef=.int .i64 (j:Nat):=(hst.env 5 _ rfl).v_;rw[hu0]at hv;cases hv with
 |d hd=>cases hd
 |gs hm' _ _ hh _ =>
 rw[hM]at hm';cases hm';have he:=hh (by rw[q5,bW];exact hL1);unfold hdr at he;rcases q6 with⟨g1,_,g3⟩|⟨g',uss',rest',g1,g2,g3,g4,g5,g6⟩
 .rw[g1]at he;cases he
 rw[g1]at he;simp only[vI,Value.slice.injEq,qH,Addr.mk.injEq]at he;obtain⟨⟨rfl,_⟩,_,hcap⟩:=he;have hrow:=hst.row hM q2 g1;have hsz:m.us.toArray.size=cap*20:=by rw[Yx,<-g4,<-hcap]
 have hlc:l.length<=cap:=by(try rw[bW]at hn);exact hn
 have hgr:=qO hst.ms.st.below;obtain⟨_,hsl,_⟩:=sliceT (bU dJ (t:=43) rfl);have hFm:Frm 42 a1 [(0,.slice (some ⟨g,0,none⟩) l.length cap),(5,.int .i64 (j:Nat))]:=((show Frm 42 a1 []from⟨hst.sz,hst.df.1.1,λt v h=>by simp[lk]at h⟩).cons h5).cons hu0;refine bI (bK (wp1 rfl (bT (hFm.ev rfl)) ?_));replace hFm:=hFm.put (d:=36) ψ (.slice (some ⟨g,0,none⟩) l.length cap);refine wp1 rfl (bT (hFm.ev rfl)) ?_;replace hFm:=hFm.put (d:=37) ψ (.int .i64 (j:Nat));refine wp1 rfl (qw (j:=j) hsl (hFm.ev rfl) (hFm.ev rfl) rfl hL2 hlc) ?_;replace hFm:=hFm.put (d:=38) ψ (.slice (some ⟨g,j*20,none⟩) (l.length-j) (cap-j));have hob:j*20+(l.length-j)*20<=m.us.toArray.size:=by rw[hsz];omega
 obtain⟨zs,hz1,hz2⟩:=yX (P:=prog) (ty:=0) (t:=43) (s:=20) (n:=l.length-j) (o:=j*20) (c:=cap-j) underlying43 zeroValue37 rfl (λv hv=>oH.1 (by rfl:(List.all _ λv:Value=>v.oneCell')=true) v hv) hrow ω hob;have h38:=hFm.ev (x:=.tmp 38) rfl
 refine wp1 (u:=.tuple #[]) (w':=w1.setRow g (m.us.toArray.toList.take (j*20)++zs++m.us.toArray.toList.drop (j*20+zs.length)).toArray) rfl (by
  simp only[execOp,resolve,invoke,builtin,List.map_toArray,xZ,List.map_nil,h38,Sem.run_bind,Sem.run_pure,Result.andThen_ok];rw[hz2]
  simp) ?_
 have hgr2:=jm w1 g (m.us.toArray.toList.take (j*20)++zs++m.us.toArray.toList.drop (j*20+zs.length)).toArray;have hnew:(w1.setRow g (m.us.toArray.toList.take (j*20)++zs++m.us.toArray.toList.drop (j*20+zs.length)).toArray).heap[g]?=some (.cells (m.us.toArray.toList.take (j*20)++zs++m.us.toArray.toList.drop (j*20+zs.length)).toArray m.T (0,0)):=setRow_heap w1 g _ _ _ _ hrow
 have htk:(m.us.toArray.toList.take (j*20)++zs++m.us.toArray.toList.drop (j*20+zs.length)).toArray.toList.take (j*20)=(uss'.take j).flatten:=by
  have hl0:(m.us.toArray.toList.take (j*20)).length=j*20:=by rw[xB,qbK];omega
  rw[Yf,S9,List.take_append_of_le_length ω,MV ω,Yf,g2];exact zx g3.sz (by rw[g3.len,bW];omega)
 generalize(m.us.toArray.toList.take (j*20)++zs++m.us.toArray.toList.drop (j*20+zs.length)).toArray=cs2 at hgr2 hnew htk;have hin:g∈bl S:=iV.2 ⟨_,hst.ms.inS 0 m hM q2 _ g1,rfl⟩;have hxf:g ∉ X.filter (λx=>!(Nat.beq x g)):=λh=>by have:=(yS.1 h).2;simp at this
 have hext:Ext w1 (bl S++X.filter (λx=>!(Nat.beq x g))) (w1.setRow g cs2) (X.filter (λx=>!(Nat.beq x g))):=⟨hgr2.size,λk hk hx _=>⟨hgr2.block k hk (λe=>hx (yQ _ (by cases e;exact hin))),λh=>hx (qP _ h)⟩⟩
 have hfin:=JC g3 (λe he=>by obtain⟨p,_,rfl⟩:=iV.1 he;rfl) (i:=j) (by rw[bW];omega) (show j<=cap by omega) (by unfold maxLen at hcm;omega) hext hnew hxf htk;rw[<-List.map_take,hL3]at hfin;generalize w1.setRow g cs2=w2 at hgr2 hfin;refine(show Exit.then _ _ .normal _ _ from dW (bI (bK ?_)));refine wp1 rfl (bT (hFm.ev rfl)) ?_;replace hFm:=hFm.put (d:=39) ψ (.slice (some ⟨g,0,none⟩) l.length cap);refine wp1 rfl (bT (hFm.ev rfl)) ?_;replace hFm:=hFm.put (d:=40) ψ (.int .i64 (j:Nat));refine wp1 rfl (oZ (j:=j) hsl (hFm.ev rfl) (hFm.ev rfl) rfl (show j<=cap by omega)) ?_;replace hFm:=hFm.put (d:=41) ψ (.slice (some ⟨g,0,none⟩) j cap);refine wp1 rfl (jF (hFm.ev rfl)) ?_;replace hFm:=hFm.put (d:=4) ψ (.slice (some ⟨g,0,none⟩) j cap);refine(show Exit.then _ _ .normal _ _ from dW (tV ?_));refine Js rfl hFm.defers (kP hFm rfl) ⟨_,rfl,.d hfin,⟨hgr2.os.trans hgr.os,hgr2.tape.trans hgr.tape,hgr2.output.trans hgr.output,fZ hgr.size hgr2.size,λk hk hne=>(hgr2.block k (Ea hk hgr.size) hne).trans (hgr.block k hk hne)⟩⟩
end Go.Proofs.YtdpkjhnfklkkjaaGreat
