/-
  What the functions answer, each out of its text by the abstract run.
  Radical numbers are ordered totally, and sums and products with a third number keep the order: the law returns true for every triple of numbers.
  Conditions: none.
-/
import Derived.Test.YtbbfmlhkgceabaaGreatM23
set_option linter.all false
namespace Go.Proofs.YtbbfmlhkgceabaaGreat
open Go Go.RowKit Go.Sw
set_option linter.unusedVariables false
set_option maxRecDepth 100000
set_option maxHeartbeats 8000000
set_option synthInstance.maxSize 4000
set_option synthInstance.maxHeartbeats 400000
theorem cmp4_tri{a b c d e f:Rat}(hc:0≤c)(hf:0≤f):cmp4 a b c d e f = -1∨cmp4 a b c d e f=0∨cmp4 a b c d e f=1:=by
 rcases cmp4_sg (a:=a) (b:=b) (d:=d) (e:=e) hc hf with h|h|h
 ·exact .inr (.inr h.1)
 ·exact .inl h.1
 ·exact .inr (.inl h.1)
theorem exI_tri(a b c:Rat):exI a b c = -1∨exI a b c=0∨exI a b c=1:=by
 have:=exI_lim a b c;omega
theorem cb_or{b c e f:Rat}(h:(decide (b=0) || decide (e=0) || decide (c=f))=true):b=0∨e=0∨c=f:=comOk_or h
set_option maxHeartbeats 16000000 in
theorem top_ord{m1 n1 m2 n2 m3 n3:Int}{k1 d1 e1 f1 k2 d2 e2 f2 k3 d3 e3 f3:Nat}(hp:((-32768≤m1∧m1<32768)∧(-32768≤n1∧n1<32768)∧k1<65536∧d1<256∧e1<256∧f1<256)∧((-32768≤m2∧m2<32768)∧(-32768≤n2∧n2<32768)∧k2<65536∧d2<256∧e2<256∧f2<256)∧((-32768≤m3∧m3<32768)∧(-32768≤n3∧n3<32768)∧k3<65536∧d3<256∧e3<256∧f3<256)):Den Tryz.prog 3 [.agg [.v (.int .i16 m1),.v (.int .i16 n1),.v (.int .u16 (k1:Nat)),.v (.int .u8 (d1:Nat)),.v (.int .u8 (e1:Nat)),.v (.int .u8 (f1:Nat)),.v (.int .i16 m2),.v (.int .i16 n2),.v (.int .u16 (k2:Nat)),.v (.int .u8 (d2:Nat)),.v (.int .u8 (e2:Nat)),.v (.int .u8 (f2:Nat)),.v (.int .i16 m3),.v (.int .i16 n3),.v (.int .u16 (k3:Nat)),.v (.int .u8 (d3:Nat)),.v (.int .u8 (e3:Nat)),.v (.int .u8 (f3:Nat))]] (.bool true):=by
 have p4:(-32768≤m3∧m3<32768)∧(-32768≤n3∧n3<32768)∧k1<65536∧d3<256∧e3<256∧f1<256:=⟨hp.2.2.1,hp.2.2.2.1,hp.1.2.2.1,hp.2.2.2.2.2.1,hp.2.2.2.2.2.2.1,hp.1.2.2.2.2.2⟩
 obtain ⟨p1,p2,p3⟩:=hp
 obtain ⟨A1,B1,C1,o1,c1,b1,ra1,rb1,rc1⟩:=of_ex p1
 obtain ⟨A2,B2,C2,o2,c2,b2,ra2,rb2,rc2⟩:=of_ex p2
 obtain ⟨A3,B3,C3,o3,c3,b3,ra3,rb3,rc3⟩:=of_ex p3
 obtain ⟨A4,B4,C4,o4,c4,b4,ra4,rb4,rc4⟩:=of_ex p4
 haveI va1:RzB A1 1000:=⟨ra1⟩
 haveI vb1:RzB B1 1000:=⟨rb1⟩
 haveI vc1:RzB C1 1000:=⟨rc1⟩
 haveI va2:RzB A2 1000:=⟨ra2⟩
 haveI vb2:RzB B2 1000:=⟨rb2⟩
 haveI vc2:RzB C2 1000:=⟨rc2⟩
 haveI va3:RzB A3 1000:=⟨ra3⟩
 haveI vb3:RzB B3 1000:=⟨rb3⟩
 haveI vc3:RzB C3 1000:=⟨rc3⟩
 haveI va4:RzB A4 1000:=⟨ra4⟩
 haveI vb4:RzB B4 1000:=⟨rb4⟩
 haveI vc4:RzB C4 1000:=⟨rc4⟩
 have q1:Den Tryz.prog 6 [(Q3 A1 B1 C1),(Q3 A2 B2 C2)] (.int .i64 (cmp4 A1 B1 C1 A2 B2 C2)):=(x_rcmp A1 B1 C1 A2 B2 C2).den ⟨Nat.le_trans ra1 (by decide),Nat.le_trans rb1 (by decide),Nat.le_trans rc1 (by decide),Nat.le_trans ra2 (by decide),Nat.le_trans rb2 (by decide),Nat.le_trans rc2 (by decide),c1,c2⟩
 have q2:Den Tryz.prog 6 [(Q3 A2 B2 C2),(Q3 A3 B3 C3)] (.int .i64 (cmp4 A2 B2 C2 A3 B3 C3)):=(x_rcmp A2 B2 C2 A3 B3 C3).den ⟨Nat.le_trans ra2 (by decide),Nat.le_trans rb2 (by decide),Nat.le_trans rc2 (by decide),Nat.le_trans ra3 (by decide),Nat.le_trans rb3 (by decide),Nat.le_trans rc3 (by decide),c2,c3⟩
 have q3:Den Tryz.prog 6 [(Q3 A1 B1 C1),(Q3 A3 B3 C3)] (.int .i64 (cmp4 A1 B1 C1 A3 B3 C3)):=(x_rcmp A1 B1 C1 A3 B3 C3).den ⟨Nat.le_trans ra1 (by decide),Nat.le_trans rb1 (by decide),Nat.le_trans rc1 (by decide),Nat.le_trans ra3 (by decide),Nat.le_trans rb3 (by decide),Nat.le_trans rc3 (by decide),c1,c3⟩
 have q4:Den Tryz.prog 6 [(Q3 A2 B2 C2),(Q3 A1 B1 C1)] (.int .i64 (cmp4 A2 B2 C2 A1 B1 C1)):=(x_rcmp A2 B2 C2 A1 B1 C1).den ⟨Nat.le_trans ra2 (by decide),Nat.le_trans rb2 (by decide),Nat.le_trans rc2 (by decide),Nat.le_trans ra1 (by decide),Nat.le_trans rb1 (by decide),Nat.le_trans rc1 (by decide),c2,c1⟩
 rw [cmp4_neg c1 c2] at q4
 have t1:=λg1 g2=>ord_trans (a:=A1) (b:=B1) (d:=A2) (e:=B2) (x:=A3) (y:=B3) c1 c2 c3 g1 g2
 have tm:=cmp4_tri (a:=A1) (b:=B1) (d:=A2) (e:=B2) c1 c2
 have tn:=cmp4_tri (a:=A2) (b:=B2) (d:=A3) (e:=B3) c2 c3
 have tk:=cmp4_tri (a:=A1) (b:=B1) (d:=A3) (e:=B3) c1 c3
 have ts:=exI_tri A4 B4 C4
 have sg:=(o_sign A4 B4 C4).den ⟨Nat.le_trans ra4 (by decide),Nat.le_trans rb4 (by decide),Nat.le_trans rc4 (by decide),b4⟩
 have ga:B1=0∨B4=0∨C1=C4→B2=0∨B4=0∨C2=C4→Den Tryz.prog 6 [Q3 (A1+A4) (B1+B4) (cooC (B1+B4) (if B1=0 then C4 else C1)),Q3 (A2+A4) (B2+B4) (cooC (B2+B4) (if B2=0 then C4 else C2))] (.int .i64 (cmp4 A1 B1 C1 A2 B2 C2)):=λh1 h2=>by
  have h:=(x_rcmp (A1+A4) (B1+B4) (cooC (B1+B4) (if B1=0 then C4 else C1)) (A2+A4) (B2+B4) (cooC (B2+B4) (if B2=0 then C4 else C2))).den ⟨rzb (by decide),rzb (by decide),rzb (by decide),rzb (by decide),rzb (by decide),rzb (by decide),cooC_nn (comC_nn (b:=B1) c1 c4),cooC_nn (comC_nn (b:=B2) c2 c4)⟩
  have e:=ord_add (a:=A1) (b:=B1) (d:=A2) (e:=B2) (x:=A4) (y:=B4) c1 c2 c4 h1 h2
  unfold comC at e
  rw [e] at h
  exact h
 have gm:B1=0∨B4=0∨C1=C4→B2=0∨B4=0∨C2=C4→Den Tryz.prog 6 [Q3 (A1*A4+B1*B4*(if B1=0 then C4 else C1)) (A1*B4+B1*A4) (cooC (A1*B4+B1*A4) (if B1=0 then C4 else C1)),Q3 (A2*A4+B2*B4*(if B2=0 then C4 else C2)) (A2*B4+B2*A4) (cooC (A2*B4+B2*A4) (if B2=0 then C4 else C2))] (.int .i64 (cmp4 A1 B1 C1 A2 B2 C2*exI A4 B4 C4)):=λh1 h2=>by
  have h:=(x_rcmp (A1*A4+B1*B4*(if B1=0 then C4 else C1)) (A1*B4+B1*A4) (cooC (A1*B4+B1*A4) (if B1=0 then C4 else C1)) (A2*A4+B2*B4*(if B2=0 then C4 else C2)) (A2*B4+B2*A4) (cooC (A2*B4+B2*A4) (if B2=0 then C4 else C2))).den ⟨rzb (by decide),rzb (by decide),rzb (by decide),rzb (by decide),rzb (by decide),rzb (by decide),cooC_nn (comC_nn (b:=B1) c1 c4),cooC_nn (comC_nn (b:=B2) c2 c4)⟩
  have e:=ord_mul (a:=A1) (b:=B1) (d:=A2) (e:=B2) (x:=A4) (y:=B4) c1 c2 c4 h1 h2
  unfold mulA mulB at e
  unfold comC at e
  rw [e] at h
  exact h
 have wa1:=(o_add A1 B1 C1 A4 B4 C4).den ⟨Nat.le_trans ra1 (by decide),Nat.le_trans rb1 (by decide),Nat.le_trans rc1 (by decide),Nat.le_trans ra4 (by decide),Nat.le_trans rb4 (by decide),Nat.le_trans rc4 (by decide)⟩
 have wa2:=(o_add A2 B2 C2 A4 B4 C4).den ⟨Nat.le_trans ra2 (by decide),Nat.le_trans rb2 (by decide),Nat.le_trans rc2 (by decide),Nat.le_trans ra4 (by decide),Nat.le_trans rb4 (by decide),Nat.le_trans rc4 (by decide)⟩
 have wm1:=(o_mul A1 B1 C1 A4 B4 C4).den ⟨Nat.le_trans ra1 (by decide),Nat.le_trans rb1 (by decide),Nat.le_trans rc1 (by decide),Nat.le_trans ra4 (by decide),Nat.le_trans rb4 (by decide),Nat.le_trans rc4 (by decide)⟩
 have wm2:=(o_mul A2 B2 C2 A4 B4 C4).den ⟨Nat.le_trans ra2 (by decide),Nat.le_trans rb2 (by decide),Nat.le_trans rc2 (by decide),Nat.le_trans ra4 (by decide),Nat.le_trans rb4 (by decide),Nat.le_trans rc4 (by decide)⟩
 have r1:=or1 f_aw o1 o2 o3 q1 q2 q3
 generalize cmp4 A1 B1 C1 A2 B2 C2=m at *
 generalize exI A4 B4 C4=s at *
 have r3:∃x0 x1 x2 x3 x4 x5 x6 x7 x8 x9 x10 x11 y0 y1 y2 y3 y4 y5 y6 y7 y8 y9 y10 y11:Cell, awp (Den Tryz.prog) tab (cutC 6 (restC 5 (Tryz.f3.body.getD .skip))) (λz e b=>z=.normal∧SubE [(3,.ptr 3 0),(4,.ptr 4 0),(6,.int .i64 m),(10,.ptr 10 0),(11,.ptr 11 0),(13,.ptr 13 0)] e∧SubB [(3,.var [zs A1.num,zl A1.num,zs A1.den,zl A1.den,zs B1.num,zl B1.num,zs B1.den,zl B1.den,zs C1.num,zl C1.num,zs C1.den,zl C1.den]),(4,.var [zs A2.num,zl A2.num,zs A2.den,zl A2.den,zs B2.num,zl B2.num,zs B2.den,zl B2.den,zs C2.num,zl C2.num,zs C2.den,zl C2.den]),(10,.var [zs A4.num,zl A4.num,zs A4.den,zl A4.den,zs B4.num,zl B4.num,zs B4.den,zl B4.den,zs C4.num,zl C4.num,zs C4.den,zl C4.den]),(11,.var [x0,x1,x2,x3,x4,x5,x6,x7,x8,x9,x10,x11]),(13,.var [y0,y1,y2,y3,y4,y5,y6,y7,y8,y9,y10,y11])] b) [(1,.ptr 1 0),(3,.ptr 3 0),(4,.ptr 4 0),(6,.int .i64 m)] [(1,.var [.v (.int .i16 m1),.v (.int .i16 n1),.v (.int .u16 (k1:Nat)),.v (.int .u8 (d1:Nat)),.v (.int .u8 (e1:Nat)),.v (.int .u8 (f1:Nat)),.v (.int .i16 m2),.v (.int .i16 n2),.v (.int .u16 (k2:Nat)),.v (.int .u8 (d2:Nat)),.v (.int .u8 (e2:Nat)),.v (.int .u8 (f2:Nat)),.v (.int .i16 m3),.v (.int .i16 n3),.v (.int .u16 (k3:Nat)),.v (.int .u8 (d3:Nat)),.v (.int .u8 (e3:Nat)),.v (.int .u8 (f3:Nat))]),(3,.var [zs A1.num,zl A1.num,zs A1.den,zl A1.den,zs B1.num,zl B1.num,zs B1.den,zl B1.den,zs C1.num,zl C1.num,zs C1.den,zl C1.den]),(4,.var [zs A2.num,zl A2.num,zs A2.den,zl A2.den,zs B2.num,zl B2.num,zs B2.den,zl B2.den,zs C2.num,zl C2.num,zs C2.den,zl C2.den])]:=by
  by_cases h1:(decide (B1=0) || decide (B4=0) || decide (C1=C4))=true<;>by_cases h2:(decide (B2=0) || decide (B4=0) || decide (C2=C4))=true
  ·exact ⟨_,_,_,_,_,_,_,_,_,_,_,_,_,_,_,_,_,_,_,_,_,_,_,_,(or3_00 tm o4 (wa1.1 h1) (wa2.1 h2) (ga (cb_or h1) (cb_or h2)))⟩
  ·exact ⟨_,_,_,_,_,_,_,_,_,_,_,_,_,_,_,_,_,_,_,_,_,_,_,_,(or3_01 tm o4 (wa1.1 h1) (wa2.2 h2))⟩
  ·exact ⟨_,_,_,_,_,_,_,_,_,_,_,_,_,_,_,_,_,_,_,_,_,_,_,_,(or3_10 tm o4 (wa1.2 h1) (wa2.1 h2))⟩
  ·exact ⟨_,_,_,_,_,_,_,_,_,_,_,_,_,_,_,_,_,_,_,_,_,_,_,_,(or3_11 tm o4 (wa1.2 h1) (wa2.2 h2))⟩
 obtain ⟨x0,x1,x2,x3,x4,x5,x6,x7,x8,x9,x10,x11,y0,y1,y2,y3,y4,y5,y6,y7,y8,y9,y10,y11,r3⟩:=r3
 have r4:awp (Den Tryz.prog) tab (restC 11 (Tryz.f3.body.getD .skip)) (endO tab Tryz.f3 [none] (.bool true)) [(3,.ptr 3 0),(4,.ptr 4 0),(6,.int .i64 m),(10,.ptr 10 0),(11,.ptr 11 0),(13,.ptr 13 0)] [(3,.var [zs A1.num,zl A1.num,zs A1.den,zl A1.den,zs B1.num,zl B1.num,zs B1.den,zl B1.den,zs C1.num,zl C1.num,zs C1.den,zl C1.den]),(4,.var [zs A2.num,zl A2.num,zs A2.den,zl A2.den,zs B2.num,zl B2.num,zs B2.den,zl B2.den,zs C2.num,zl C2.num,zs C2.den,zl C2.den]),(10,.var [zs A4.num,zl A4.num,zs A4.den,zl A4.den,zs B4.num,zl B4.num,zs B4.den,zl B4.den,zs C4.num,zl C4.num,zs C4.den,zl C4.den]),(11,.var [x0,x1,x2,x3,x4,x5,x6,x7,x8,x9,x10,x11]),(13,.var [y0,y1,y2,y3,y4,y5,y6,y7,y8,y9,y10,y11])]:=by
  by_cases h1:(decide (B1=0) || decide (B4=0) || decide (C1=C4))=true<;>by_cases h2:(decide (B2=0) || decide (B4=0) || decide (C2=C4))=true
  ·exact (or4_00 tm ts sg (wm1.1 h1) (wm2.1 h2) (gm (cb_or h1) (cb_or h2)))
  ·exact (or4_01 tm ts sg (wm1.1 h1) (wm2.2 h2))
  ·exact (or4_10 tm ts sg (wm1.2 h1) (wm2.1 h2))
  ·exact (or4_11 tm ts sg (wm1.2 h1) (wm2.2 h2))
 have r2:=or2 (m1:=m1) (n1:=n1) (m2:=m2) (n2:=n2) (m3:=m3) (n3:=n3) (k1:=k1) (d1:=d1) (e1:=e1) (f1:=f1) (k2:=k2) (d2:=d2) (e2:=e2) (f2:=f2) (k3:=k3) (d3:=d3) (e3:=e3) (f3:=f3) tm tn tk t1 q4
 refine Den.of ⟨by kernel_rfl,λw X vs ho hX hl hR=>?_⟩ rfl
 haveI:WOk Tryz.prog w:=.of ho
 refine enter Tryz.func3 rfl rfl (by rw [hl];rfl) λa hF=>?_
 have hc:=args_conc (N:=130) hX hl hR hF
 refine cut_ok (τ:=tab) tab_ok mixed_ 4 _ (by kernel_rfl) r1 hc (λe b a w hq hc2=>?_) (λx e b a w hx hq hc=>absurd hq.1 hx)
 replace hc2:=hc2.sub hq.2.1 hq.2.2
 refine cut_ok (τ:=tab) tab_ok mixed_ 1 _ (by kernel_rfl) r2 hc2 (λe b a w hq hc2=>?_) (λx e b a w hx hq hc=>absurd hq.1 hx)
 replace hc2:=hc2.sub hq.2.1 hq.2.2
 refine cut_ok (τ:=tab) tab_ok mixed_ 6 _ (by kernel_rfl) r3 hc2 (λe b a w hq hc2=>?_) (λx e b a w hx hq hc=>absurd hq.1 hx)
 replace hc2:=hc2.sub hq.2.1 hq.2.2
 exact awp_ok (τ:=tab) tab_ok mixed_ _ (by kernel_rfl) r4 hc2 (λx e b a w' hx hc'=>endO_ok tab_ok hx hc')
instance (priority:=2000) l_ord(m1 n1 m2 n2 m3 n3:Int)(k1 d1 e1 f1 k2 d2 e2 f2 k3 d3 e3 f3:Nat):DenI Tryz.prog 3 [.agg [.v (.int .i16 m1),.v (.int .i16 n1),.v (.int .u16 (k1:Nat)),.v (.int .u8 (d1:Nat)),.v (.int .u8 (e1:Nat)),.v (.int .u8 (f1:Nat)),.v (.int .i16 m2),.v (.int .i16 n2),.v (.int .u16 (k2:Nat)),.v (.int .u8 (d2:Nat)),.v (.int .u8 (e2:Nat)),.v (.int .u8 (f2:Nat)),.v (.int .i16 m3),.v (.int .i16 n3),.v (.int .u16 (k3:Nat)),.v (.int .u8 (d3:Nat)),.v (.int .u8 (e3:Nat)),.v (.int .u8 (f3:Nat))]] (((-32768≤m1∧m1<32768)∧(-32768≤n1∧n1<32768)∧k1<65536∧d1<256∧e1<256∧f1<256)∧((-32768≤m2∧m2<32768)∧(-32768≤n2∧n2<32768)∧k2<65536∧d2<256∧e2<256∧f2<256)∧((-32768≤m3∧m3<32768)∧(-32768≤n3∧n3<32768)∧k3<65536∧d3<256∧e3<256∧f3<256)) (.bool true):=⟨top_ord⟩
end Go.Proofs.YtbbfmlhkgceabaaGreat
namespace Go.Proofs.YtbbfmlhkgceabaaGreat
open Go Go.RowKit Go.Sw Go.ChangeShapes Go.WideShapes Go.ChangeAt
set_option maxRecDepth 100000
theorem TopOrder_den:∀xs,FitAs [.cons (.cons (.int .i16) (.cons (.int .i16) (.cons (.int .u16) (.cons (.int .u8) (.cons (.int .u8) (.cons (.int .u8) .nil)))))) (.cons (.cons (.int .i16) (.cons (.int .i16) (.cons (.int .u16) (.cons (.int .u8) (.cons (.int .u8) (.cons (.int .u8) .nil)))))) (.cons (.cons (.int .i16) (.cons (.int .i16) (.cons (.int .u16) (.cons (.int .u8) (.cons (.int .u8) (.cons (.int .u8) .nil)))))) .nil))] xs→Den Tryz.prog 3 xs (.bool true):=by
 rintro xs ⟨_,_,⟨_,⟨_,_,⟨_,_,⟨n1,wn1,rfl⟩,⟨_,_,⟨n2,wn2,rfl⟩,⟨_,_,⟨n3,wn3,rfl⟩,⟨_,_,⟨n4,wn4,rfl⟩,⟨_,_,⟨n5,wn5,rfl⟩,⟨_,_,⟨n6,wn6,rfl⟩,rfl,rfl⟩,rfl⟩,rfl⟩,rfl⟩,rfl⟩,rfl⟩,⟨_,_,⟨_,_,⟨n7,wn7,rfl⟩,⟨_,_,⟨n8,wn8,rfl⟩,⟨_,_,⟨n9,wn9,rfl⟩,⟨_,_,⟨n10,wn10,rfl⟩,⟨_,_,⟨n11,wn11,rfl⟩,⟨_,_,⟨n12,wn12,rfl⟩,rfl,rfl⟩,rfl⟩,rfl⟩,rfl⟩,rfl⟩,rfl⟩,⟨_,_,⟨_,_,⟨n13,wn13,rfl⟩,⟨_,_,⟨n14,wn14,rfl⟩,⟨_,_,⟨n15,wn15,rfl⟩,⟨_,_,⟨n16,wn16,rfl⟩,⟨_,_,⟨n17,wn17,rfl⟩,⟨_,_,⟨n18,wn18,rfl⟩,rfl,rfl⟩,rfl⟩,rfl⟩,rfl⟩,rfl⟩,rfl⟩,rfl,rfl⟩,rfl⟩,rfl⟩,rfl⟩,rfl,rfl⟩
 have wn1:=wfI16 wn1
 have wn2:=wfI16 wn2
 obtain ⟨mn3,rfl,hmn3⟩:=wfNat (by simp) wn3
 have hmn3:mn3<65536:=hmn3
 obtain ⟨mn4,rfl,hmn4⟩:=wfNat (by simp) wn4
 have hmn4:mn4<256:=hmn4
 obtain ⟨mn5,rfl,hmn5⟩:=wfNat (by simp) wn5
 have hmn5:mn5<256:=hmn5
 obtain ⟨mn6,rfl,hmn6⟩:=wfNat (by simp) wn6
 have hmn6:mn6<256:=hmn6
 have wn7:=wfI16 wn7
 have wn8:=wfI16 wn8
 obtain ⟨mn9,rfl,hmn9⟩:=wfNat (by simp) wn9
 have hmn9:mn9<65536:=hmn9
 obtain ⟨mn10,rfl,hmn10⟩:=wfNat (by simp) wn10
 have hmn10:mn10<256:=hmn10
 obtain ⟨mn11,rfl,hmn11⟩:=wfNat (by simp) wn11
 have hmn11:mn11<256:=hmn11
 obtain ⟨mn12,rfl,hmn12⟩:=wfNat (by simp) wn12
 have hmn12:mn12<256:=hmn12
 have wn13:=wfI16 wn13
 have wn14:=wfI16 wn14
 obtain ⟨mn15,rfl,hmn15⟩:=wfNat (by simp) wn15
 have hmn15:mn15<65536:=hmn15
 obtain ⟨mn16,rfl,hmn16⟩:=wfNat (by simp) wn16
 have hmn16:mn16<256:=hmn16
 obtain ⟨mn17,rfl,hmn17⟩:=wfNat (by simp) wn17
 have hmn17:mn17<256:=hmn17
 obtain ⟨mn18,rfl,hmn18⟩:=wfNat (by simp) wn18
 have hmn18:mn18<256:=hmn18
 try simp only [List.append_nil,List.nil_append,List.cons_append]
 exact DenI.den (P:=Tryz.prog) (f:=3) (by (repeat' apply And.intro)<;>first|trivial|omega)
set_option maxHeartbeats 800000 in
theorem TopOrder_lifted(os:Os)(started:os.Started)(H:Type)(enc:TypeId × Value→H):
 ReturnsInHanded {} Tryz.checked os 3 .any (Rows.topOrderSpec.pre6 enc Tryz.prog Tryz.f3 Rows.topOrderRow.domain false) (Rows.topOrderSpec.post enc Tryz.prog Tryz.f3 false true false false):=by
 refine returnsInHanded_of_change (C:=Tryz.checked) Tryz.own started (by kernel_rfl) Tryz.func3
  (ChangeSpec.witness6 (enc:=enc) (C:=Tryz.checked) false ⟨#[],#[.agg #[.int .i16 0,.int .i16 0,.int .u16 0,.int .u8 0,.int .u8 0,.int .u8 0,.int .i16 0,.int .i16 0,.int .u16 0,.int .u8 0,.int .u8 0,.int .u8 0,.int .i16 0,.int .i16 0,.int .u16 0,.int .u8 0,.int .u8 0,.int .u8 0]],[]⟩ 12 (by kernel_rfl) (by kernel_rfl) (by kernel_rfl) (by kernel_rfl)) ?_
 intro W base args ds gs before hval0 hW _ _
 have hW':=hW
 obtain ⟨p,q,hA0,hV,rfl,_,_⟩:=hW
 have hA:DataW.TrodAll enc Tryz.prog W 0 (λ_=>true) true Tryz.f3.params.toList args.toList ds p:=hA0
 obtain ⟨rfl,rfl⟩:=trodVars_none hV
 obtain ⟨d0,rfl⟩:=len1 (show ds.length=1 from trodAll_len hA)
 simp only [List.append_nil] at hW'
 have hlt:∀x∈p,x.block<W.heap.size:=λx hx=>by simpa using hW'.lt x hx
 refine (law_run (Ts:=[.cons (.cons (.int .i16) (.cons (.int .i16) (.cons (.int .u16) (.cons (.int .u8) (.cons (.int .u8) (.cons (.int .u8) .nil)))))) (.cons (.cons (.int .i16) (.cons (.int .i16) (.cons (.int .u16) (.cons (.int .u8) (.cons (.int .u8) (.cons (.int .u8) .nil)))))) (.cons (.cons (.int .i16) (.cons (.int .i16) (.cons (.int .u16) (.cons (.int .u8) (.cons (.int .u8) (.cons (.int .u8) .nil)))))) .nil))]) (by kernel_rfl) TopOrder_den (λj t v hj ha=>hval0 j t v (by simpa using hj) (by simpa using ha)) hA).mono λe W' he=>?_
 obtain ⟨_,rfl,rfl,hb⟩:=he
 refine ⟨_,rfl,_,_,_,[],_,[],hW', ?_,trodAll_below Tryz.laidOut hb (by kernel_rfl) hlt hA,rfl,hb.frame _,λh=>by cases h⟩
 exact trodAll_mk1 (shut_bool Tryz.underlying4 _)
theorem TopOrder_holds:Rows.TopOrderSaid :=
 OpenClaim.holds_of_wide 3 Tryz.f3 rfl rfl rfl rfl rfl rfl rfl ⟨rfl,rfl,rfl,rfl,rfl⟩ rfl rfl rfl rfl rfl (by kernel_rfl) Tryz.func3 (by kernel_rfl)
  (of_decide_eq_true (by kernel_rfl)) (by unfold Func.isWrapper;first|(rw [if_pos (by decide +kernel)];kernel_rfl)|(rw [if_neg (by decide +kernel)];exact ⟨rfl,rfl⟩))
  (λos started H enc _=>TopOrder_lifted os started H enc)
#print axioms TopOrder_holds
end Go.Proofs.YtbbfmlhkgceabaaGreat
