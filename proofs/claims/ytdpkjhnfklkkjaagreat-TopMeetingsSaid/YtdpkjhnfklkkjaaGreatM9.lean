/-
  Rules of the abstract run, plain laws, and what functions answer, for the law TopMeetings.
  Conditions: none.
-/
import Derived.Test.YtdpkjhnfklkkjaaGreatM8
import Derived.Test.YtdpkjhnfklkkjaaGreatChecked
import Derived.Maps.Own
import Derived.Maps.Views
set_option linter.all false
set_option maxHeartbeats 16000000
namespace Go.Proofs.YtdpkjhnfklkkjaaGreat
open Go Go.RowKit Go.Sw Go.Proofs.Tryz
set_option maxRecDepth 20000
namespace TfR
theorem body274:fE prog 274=true:=ζ
theorem body275:fE prog 275=true:=ζ
theorem body314:fE prog 314=true:=ζ
theorem body315:fE prog 315=true:=ζ
theorem body316:fE prog 316=true:=ζ
theorem body317:fE prog 317=true:=ζ
theorem el209:Sw.elemOf prog 209=some (#[.int .u32 0],1,4):=ζ
theorem mixed:prog.follows .mixedOrders=true:=ζ
theorem one209:jq prog 209=true:=ζ
theorem size209:(prog.info? 209).map (λi=>i.size)=some 1:=ζ
theorem sl27:sliceOf prog 27=some (209,1):=ζ
theorem sls27:(sliceOf prog 27).isSome=true:=ζ
theorem und194:prog.underlying 194=some (TypeDesc.int .u64):=ζ
theorem und209:prog.underlying 209=some (TypeDesc.int .u32):=ζ
theorem unds194:(prog.underlying 194).isSome=true:=ζ
theorem unds209:(prog.underlying 209).isSome=true:=ζ
end TfR
theorem yN{w:World}{X:List Nat}(hX:∀m∈X,m<w.heap.size){v_a:Value}{a:List Nat}(h_a:UL w X v_a (a)){v_b:Value}{b:List Nat}(h_b:UL w X v_b (b))(hn_a:a.length<=100000000000)(hn_b:b.length<=100000000000)(hb_a:Lb a)(hb_b:Lb b)(hpos:0<val b):
 Calls prog 276 #[v_a,v_b] w (Ar λr w'=>(∃qs:List Nat,∃rs:List Nat,∃r0 r1,r=.tuple #[r0,r1]/\UL w' X r0 (qs)/\UL w' X r1 (rs)/\Lb qs/\Lb rs/\val a=val b*val qs+val rs/\val rs<val b/\qs.length=Zx a b/\rs.length=Ya a b)/\Below w.heap.size w w'):=by
 refine enter (N:=179) (fn:=Tryz.f276) (vs:=[v_a,v_b]) func276 rfl rfl rfl ?_;intro fa hF;obtain⟨A_a,_,c_a,rfl,rfl,hu_a⟩:=h_a;have hl_a:=hu_a.len;have hc_a:=hu_a.cap;obtain⟨A_b,_,c_b,rfl,rfl,hu_b⟩:=h_b;have hl_b:=hu_b.len;have hc_b:=hu_b.cap;replace hF:Frm 179 fa [(0,(.slice (A_a) (a.length) (c_a))),(1,(.slice (A_b) (b.length) (c_b)))]:=hF;have hS:=St.refl w;have hca:=gY hb_a;have hcb:=gY hb_b;have hva:=gQ a;have hvb0:=gQ b;have hla:=iq a;have hlb:=iq b;have hbn:0<(aG b).length:=by cases hq:aG b with|nil=>rw[hq]at hvb0;simp[val]at hvb0;omega|cons _ _=>simp
 refine bI ?_;refine bK ?_;refine pr hF (pa rfl <| pa rfl <| PR.nil) ?_;clear hF fa;intro fa hF;refine aV ?_;refine bI ?_;refine bK ?_;refine pr hF (pm rfl <| PR.nil) ?_;clear hF fa;intro fa hF;have hC:=kU (w:=w) (X:=X) (l:=a) (hS.bnd hX) ⟨_,(a.length),_,rfl,(rfl),hu_a⟩;refine st rfl (lS hF rfl TfR.body314 (args1 (hF.ev rfl)) hC ?_);clear hC;rintro _ w1 ⟨⟨A4,_,c5,rfl,rfl,hu6⟩,hb2⟩;refine qh ?_;clear hF fa;intro fa hF;replace hS:=hS.call hb2;have E3:=Ext.call X hb2;refine pr hF (pm rfl <| PR.nil) ?_;clear hF fa;intro fa hF;have hC:=kU (w:=w1) (X:=X) (l:=b) (hS.bnd hX) ⟨_,(b.length),_,rfl,(rfl),(hu_b.ext E3)⟩;refine st rfl (lS hF rfl TfR.body314 (args1 (hF.ev rfl)) hC ?_);clear hC;rintro _ w7 ⟨⟨A10,_,c11,rfl,rfl,hu12⟩,hb8⟩;refine qh ?_;clear hF fa;intro fa hF;replace hS:=hS.call hb8;have E9:=Ext.call X hb8;refine pr hF (pa rfl <| pa rfl <| PR.nil) ?_;clear hF fa;intro fa hF;refine aV ?_;refine bI ?_;refine bI ?_;refine bK ?_;refine pr hF (pm rfl <| pg (λ_ hF=>mP TfR.sls27 (hF.ev rfl)) <| pg (λ_ hF=>Y8 (hF.ev rfl) (hF.ev rfl)) <| PR.nil) ?_;clear hF fa;intro fa hF;refine aV ?_;refine iY hF rfl (λhc13=>?_) (λhc13=>?_)
 ·
  have hc13p:(((aG b).length:Nat):Int)=1:=by first|simpa using hc13|exact eP hc13|exact eG hc13
  have h1b:=YN (l:=aG b) ω;refine bI ?_;refine bK ?_;refine pr hF (pm rfl <| pm rfl <| PR.nil) ?_;clear hF fa;intro fa hF;obtain⟨ad14,hA15,hq16⟩:=hu12.cl.at_ (mW (l:=(aG b)) (i:=0) ω);refine pr hF (pg (λ_ hF=>mZ (j:=0) TfR.sl27 (hF.ev rfl) hA15 (hF.ev rfl) ω ω) <| pg (λ_ hF=>iP TfR.one209 (hF.ev rfl) hq16) <| PR.nil) ?_;clear hF fa;intro fa hF;have hC:=qC (w:=w7) (X:=X) (a:=(aG a)) (hS.bnd hX) ⟨_,((aG a).length),_,rfl,(rfl),(hu6.ext E9)⟩ ((aG b).getD (0) 0) ω (hca.1) ω (hcb.1.getD 0);refine st rfl (lS hF rfl TfR.body315 (args2 (hF.ev rfl) (hF.ev (jH (b:=(((aG b).getD (0) 0:Nat):Int)) rfl (by first|rfl|omega)))) hC ?_);clear hC;rintro _ w17 ⟨⟨qs_20,rs_21,_,_,rfl,⟨A22,_,c23,rfl,rfl,hu24⟩,⟨A25,_,c26,rfl,rfl,hu27⟩,hp28,hp29,hp30,hp31,hp32,hp33⟩,hb18⟩;refine qh ?_;clear hF fa;intro fa hF;replace hS:=hS.call hb18;have E19:=Ext.call X hb18;have hw_lq:=hp28;have hw_lr:=hp29;have hw_v:=hp30;have hw_l:=hp31;have hw_q:=hp32;have hw_r:=hp33;refine pr hF (px rfl rfl <| px rfl rfl <| pa rfl <| pa rfl <| PR.nil) ?_;clear hF fa;intro fa hF;replace hF:Frm 179 fa [(0,(.slice (A4) ((aG a).length) (c5))),(1,(.slice (A10) ((aG b).length) (c11))),(4,(.slice (A22) (qs_20.length) (c23))),(5,(.slice (A25) (rs_21.length) (c26))),(23,(.bool (decide ((((aG b).length:Nat):Int)=1))))]:=(hF.all ⟨rfl,rfl,rfl,rfl,rfl,trivial⟩)
  refine aV ?_;refine tV ?_;refine XI ?_;refine adZ hF rfl (kP hF rfl) (kP hF rfl) ?_;exact⟨_,rfl,⟨qs_20,rs_21,_,_,rfl,(UL.fin (L:=qs_20) ⟨_,_,_,rfl,(rfl),hu24⟩ (rfl) (λx hx=>by simp[hx])),(UL.fin (L:=rs_21) ⟨_,_,_,rfl,(rfl),hu27⟩ (rfl) (λx hx=>by simp[hx])),(hw_lq),(hw_lr),(by rw[<-hva,<-hvb0,h1b];exact hw_v),(by rw[<-hvb0,h1b];exact hw_l),(by unfold Zx;rw[if_pos ω];omega),(by unfold Ya;rw[if_pos ω];omega)⟩,hS.below⟩
 have hc13p:¬((((aG b).length:Nat):Int)=1):=by first|simpa using hc13|exact eP hc13|exact eG hc13
 have hn2:2<=(aG b).length:=ω
 refine jo ?_;refine dW ?_;refine bI ?_;refine bI ?_;refine bK ?_;refine pr hF (pm rfl <| pm rfl <| PR.nil) ?_;clear hF fa;intro fa hF;have hC:=wU (w:=w7) (X:=X) (a:=(aG a)) (b:=(aG b)) (hS.bnd hX) ⟨_,((aG a).length),_,rfl,(rfl),(hu6.ext E9)⟩ ⟨_,((aG b).length),_,rfl,(rfl),hu12⟩ (hca.1) (hcb.1);refine st rfl (lS hF rfl TfR.body275 (args2 (hF.ev rfl) (hF.ev rfl)) hC ?_);clear hC;rintro _ w34 ⟨rfl,hb35⟩;refine qh ?_;clear hF fa;intro fa hF;replace hS:=hS.call hb35;have E36:=Ext.call X hb35;refine pr hF (pg (λ_ hF=>qF (hF.ev rfl) (hF.ev rfl)) <| PR.nil) ?_;clear hF fa;intro fa hF;refine aV ?_;refine iY hF rfl (λhc37=>?_) (λhc37=>?_)
 ·
  have hc37p:(iy (val ((aG a))) (val ((aG b))))<0:=by first|simpa using hc37|exact eP hc37|exact eG hc37
  have hlt0:=uy.1 hc37p;refine bI ?_;refine bK ?_;refine pr hF (pm rfl <| PR.nil) ?_;clear hF fa;intro fa hF;refine st rfl (F6 (X:=X) (F:=[]) (So:=[]) (l:=us ([])) (m:=us ((aG a))) hF hS rfl TfR.sl27 TfR.el209 rfl rfl rfl η (OwV.nil 209) (hu6.ext (E9.trans E36)).cl (Yk _) κ κ ?_);intro v38 So39 w40 hO41 hS E42 hun43;refine qh ?_;clear hF fa;intro fa hF;clear hun43;rw[<-Gm]at hO41;simp only[qbN]at hO41;replace E42:Ext w34 X w40 (bl So39++X):=E42;replace hS:St w w40 So39:=hS;refine pr hF (pa rfl <| pa rfl <| PR.nil) ?_;clear hF fa;intro fa hF;refine aV ?_;refine tV ?_;refine XI ?_;refine adZ hF rfl (kP hF rfl) (kP hF rfl) ?_;exact⟨_,rfl,⟨[],(aG a),_,_,rfl,(UL.nil_ _ _),(UL.fin (UC.of_ow (F:=[]) hO41 hS hX) (rfl) (λ_ h=>h)),(Lb.nil),(hca.1),(by rw[hva];simp[val]),ω,(by unfold Zx;rw[if_neg ω,if_pos ω];rfl),(by unfold Ya;rw[if_neg ω,if_pos ω])⟩,hS.below⟩
 have hc37p:¬((iy (val ((aG a))) (val ((aG b))))<0):=by first|simpa using hc37|exact eP hc37|exact eG hc37
 have hle0:val (aG b)<=val (aG a):=by have:=mt uy.2 hc37p;omega
 have hlen:=EM hca hcb hle0;have hbtop:=hcb.1.getD ((aG b).length-1);refine jo ?_;refine dW ?_;refine bI ?_;refine bK ?_;refine pr hF (pm rfl <| pg (λ_ hF=>mP TfR.sls27 (hF.ev rfl)) <| pa rfl <| PR.nil) ?_;clear hF fa;intro fa hF;refine aV ?_;refine bI ?_;refine bK ?_;refine pr hF (pm rfl <| pm rfl <| pg (λ_ hF=>iI (hF.ev rfl) (hF.ev rfl) jY) <| PR.nil) ?_;clear hF fa;intro fa hF;obtain⟨ad44,hA45,hq46⟩:=(hu12.ext E36).cl.at_ (mW (l:=(aG b)) (i:=(aG b).length-1) ω);refine pr hF (pg (λ_ hF=>mZ (j:=(aG b).length-1) TfR.sl27 (hF.ev rfl) hA45 (hF.ev rfl) ω ω) <| pg (λ_ hF=>iP TfR.one209 (hF.ev rfl) hq46) <| pg (λ_ hF=>fH TfR.unds209 TfR.und194 (hF.ev rfl) (mF ω)) <| pg (λ_ hF=>dX (hF.ev rfl) (hF.ev rfl) oJ) <| pg (λ_ hF=>zJ (hF.ev rfl) (hF.ev rfl) ω (LV (x:=1000000000) (y:=((aG b).getD ((aG b).length-1) 0)+1) ω ω ω)) <| pg (λ_ hF=>fH TfR.unds194 TfR.und209 (hF.ev rfl) (DK (by have:=OU 1000000000 ((aG b).getD ((aG b).length-1) 0+1);omega))) <| pa rfl <| PR.nil) ?_;clear hF fa;intro fa hF;replace hF:Frm 179 fa [(0,(.slice (A4) ((aG a).length) (c5))),(1,(.slice (A10) ((aG b).length) (c11))),(4,(.slice (none) (0) (0))),(5,(.slice (none) (0) (0))),(23,(.bool (decide ((((aG b).length:Nat):Int)=1)))),(34,(.bool (decide ((iy (val ((aG a))) (val ((aG b))))<0)))),(6,(.int .i64 ((((aG b).length:Nat):Int)))),(7,(.int .u32 (((1000000000/(((aG b).getD ((aG b).length-1) 0)+1):Nat):Int))))]:=(hF.all ⟨rfl,rfl,rfl,rfl,rfl,rfl,rfl,rfl,trivial⟩)
 refine aV ?_;refine bI ?_;obtain⟨sc,hsc⟩:∃sc,sc=1000000000/((aG b).getD ((aG b).length-1) 0+1):=⟨_,rfl⟩
 rw[<-hsc]at hF;have hscB:=J6 hcb rfl hbn hsc;refine bK ?_;refine pr hF (pm rfl <| pm rfl <| PR.nil) ?_;clear hF fa;intro fa hF;refine st rfl (OI (X:=X) hF hS (hS.bnd hX) rfl TfR.sl27 TfR.el209 rfl rfl (Ym (hF.ev (jH (b:=((sc:Nat):Int)) rfl ω))) (I8 (x:=sc)) ?_);intro g47 w48 hg50 hS E49 hc51;refine qh ?_;clear hF fa;intro fa hF;have hu52:=UC.one (l:=[sc]) hc51 η;have hC:=qV (w:=w48) (X:=X) (a:=(aG a)) (b:=([sc])) (hS.bnd hX) ⟨_,((aG a).length),_,rfl,(rfl),(hu6.ext ((E9.trans E36).trans E49))⟩ ⟨_,(1),_,rfl,(rfl),hu52⟩ ω η (hca.1) (Lb.cons hscB Lb.nil);refine st rfl (lS hF rfl TfR.body274 (args2 (hF.ev rfl) (hF.ev rfl)) hC ?_);clear hC;rintro _ w53 ⟨⟨o_56,⟨g57,rfl,hq58,hg59⟩,hp60,hp61,hp62⟩,hb54⟩;refine qh ?_;clear hF fa;intro fa hF;replace hS:=hS.push_new hb54 hq58 hg59;have E55:=Ext.push_new X hb54 hg59;simp[val]at hp61 hp62;have hol:=hp62;have hob:=hp60;have hu0:val (o_56++[0])=val a*sc:=by rw[Sr,hp61,hva]
 refine st rfl (OI (X:=(g57::X)) hF hS (hS.bnd hX) rfl TfR.sl27 TfR.el209 rfl rfl (Ym (hF.ev (jH (b:=((0:Nat):Int)) rfl ω))) (I8 (x:=0)) ?_);intro g63 w64 hg66 hS E65 hc67;refine qh ?_;clear hF fa;intro fa hF;have hu68:=UC.one (l:=[0]) hc67 η;refine st rfl (F6 (X:=X) (F:=[]) (So:=[(g57,209,(us (o_56)).toArray)]) (l:=us (o_56)) (m:=us ([0])) hF hS rfl TfR.sl27 TfR.el209 rfl rfl rfl η (OwV.full 209 g57 (o_56) (o_56.length) (o_56.length) (by first|rfl|(simp;done)|omega) (by first|rfl|(simp;done)|omega) (by first|omega|(simp;omega))) hu68.cl (Yk _) κ κ ?_);intro v69 So70 w71 hO72 hS E73 hun74;refine qh ?_;clear hF fa;intro fa hF;clear hun74;rw[<-Gm]at hO72;replace E73:Ext w64 (g57::X) w71 (bl So70++X):=E73;replace hS:St w w71 So70:=hS;obtain⟨g75,c76,R77,hs81,hv78,hcl79,hcm80⟩:=OwV.settle hO72 η;unfold maxLen at hcm80;subst hs81;subst hv78;have hs81_:(o_56++([0])).length=(aG a).length+2:=by simp;omega
 rw[hs81_]at hF hcl79;refine pr hF (pa rfl <| PR.nil) ?_;clear hF fa;intro fa hF;refine aV ?_;refine bI ?_;refine bK ?_;refine pr hF (pm rfl <| pm rfl <| PR.nil) ?_;clear hF fa;intro fa hF;refine st rfl (OI (X:=(g75::X)) hF hS (hS.bnd hX) rfl TfR.sl27 TfR.el209 rfl rfl (Ym (hF.ev (jH (b:=((sc:Nat):Int)) rfl ω))) (I8 (x:=sc)) ?_);intro g82 w83 hg85 hS E84 hc86;refine qh ?_;clear hF fa;intro fa hF;have hu87:=UC.one (l:=[sc]) hc86 η;have hC:=qV (w:=w83) (X:=(g75::X)) (a:=(aG b)) (b:=([sc])) (hS.bnd hX) ⟨_,((aG b).length),_,rfl,(rfl),(hu12.ext (((((E36.trans E49).trans E55).trans E65).trans E73).trans E84))⟩ ⟨_,(1),_,rfl,(rfl),hu87⟩ ω η (hcb.1) (Lb.cons hscB Lb.nil);refine st rfl (lS hF rfl TfR.body274 (args2 (hF.ev rfl) (hF.ev rfl)) hC ?_);clear hC;rintro _ w88 ⟨⟨o_91,⟨g92,rfl,hq93,hg94⟩,hp95,hp96,hp97⟩,hb89⟩;refine qh ?_;clear hF fa;intro fa hF;replace hS:=hS.push_new hb89 hq93 hg94;have E90:=Ext.push_new (g75::X) hb89 hg94;simp[val]at hp96 hp97;have hcv:=gY hp95;obtain⟨hsc0,_,hvn,hvtop,hvP⟩:=Fb (v:=aG o_91) hcb rfl hbn hsc hcv (by rw[gQ,hp96]);have hvb:=hcv.1;have hvL:=λi=>hvb.getD i
 have hV:val (aG o_91)=val b*sc:=by rw[gQ,hp96,hvb0]
 have hVM:val (aG o_91)<=1000000000^((aG b).length+1):=by have h0:=iG _ hvb;rw[hvn]at h0;have:=Gi (n:=1000000000) ω (show(aG b).length<=(aG b).length+1 by omega);omega
 obtain⟨hS1,hn1⟩:=hS.out hX 0 rfl;have hu98:=UC.of_box (L:=o_91) (hS.get 0 rfl) hn1 (by first|omega|(simp;omega));have E99:Ext w88 (g92 ::(g75::X)) w88 (g75::X):=Ext.drop (by simp +contextual);replace hu98:UC w88 (g75::X) (some ⟨g92,0,none⟩) (o_91).length (o_91):=hu98;replace hS:St w w88 [(g75,209,(us (o_56++([0]))++R77).toArray)]:=hS1;clear hn1;have hC:=kU (w:=w88) (X:=(g75::X)) (l:=o_91) (hS.bnd hX) (UL.cap (n:=o_91.length) (c:=o_91.length) hu98 (by first|rfl|(simp;done)|omega) (by first|rfl|(simp;done)|omega));refine st rfl (lS hF rfl TfR.body314 (args1 (hF.ev rfl)) hC ?_);clear hC;rintro _ w100 ⟨⟨A103,_,c104,rfl,rfl,hu105⟩,hb101⟩;refine qh ?_;clear hF fa;intro fa hF;replace hS:=hS.call hb101;have E102:=Ext.call (g75::X) hb101;refine pr hF (pa rfl <| PR.nil) ?_;clear hF fa;intro fa hF;refine aV ?_;refine bI ?_;refine bK ?_;refine pr hF (pm rfl <| pg (λ_ hF=>mP TfR.sls27 (hF.ev rfl)) <| pm rfl <| pg (λ_ hF=>iI (hF.ev rfl) (hF.ev rfl) jY) <| PR.nil) ?_;clear hF fa;intro fa hF;refine st rfl (Qu (X:=(g75::X)) (nl:=((aG a).length+2)-((aG b).length)) (nc:=((aG a).length+2)-((aG b).length)) hF hS rfl TfR.sl27 TfR.el209 rfl rfl ω ω ω ω ω (I9 _) ?_);intro g106 w107 hg109 hS E108;refine qh ?_;clear hF fa;intro fa hF;rw[Nat.mul_one]at hS;refine pr hF (pa rfl <| PR.nil) ?_;clear hF fa;intro fa hF;replace hF:Frm 179 fa [(0,(.slice (A4) ((aG a).length) (c5))),(1,(.slice (A10) ((aG b).length) (c11))),(4,(.slice (none) (0) (0))),(5,(.slice (none) (0) (0))),(23,(.bool (decide ((((aG b).length:Nat):Int)=1)))),(34,(.bool (decide ((iy (val ((aG a))) (val ((aG b))))<0)))),(6,(.int .i64 ((((aG b).length:Nat):Int)))),(7,(.int .u32 (((sc:Nat):Int)))),(8,(.slice (some ⟨g75,0,none⟩) ((aG a).length+2) (c76))),(9,(.slice (A103) ((aG o_91).length) (c104))),(10,(.slice (some ⟨g106,0,none⟩) (((aG a).length+2)-((aG b).length)) (((aG a).length+2)-((aG b).length))))]:=(hF.all ⟨rfl,rfl,rfl,rfl,rfl,rfl,rfl,rfl,rfl,rfl,rfl,trivial⟩)
 refine aV ?_;refine bI ?_;refine bI ?_;refine bK ?_;refine pr hF (pm rfl <| pg (λ_ hF=>mP TfR.sls27 (hF.ev rfl)) <| pm rfl <| pg (λ_ hF=>iI (hF.ev rfl) (hF.ev rfl) jY) <| pg (λ_ hF=>iI (hF.ev rfl) (hF.ev rfl) jY) <| pa rfl <| PR.nil) ?_;clear hF fa;intro fa hF;refine aV ?_;refine iK ?_;refine uQ (λmu fa w'=>∃U:List Nat,∃Q:List Nat,∃j:Nat,Frm 179 fa [(0,(.slice (A4) ((aG a).length) (c5))),(1,(.slice (A10) ((aG b).length) (c11))),(4,(.slice (none) (0) (0))),(5,(.slice (none) (0) (0))),(23,(.bool (decide ((((aG b).length:Nat):Int)=1)))),(34,(.bool (decide ((iy (val ((aG a))) (val ((aG b))))<0)))),(6,(.int .i64 ((((aG b).length:Nat):Int)))),(7,(.int .u32 (((sc:Nat):Int)))),(8,(.slice (some ⟨g75,0,none⟩) ((aG a).length+2) (c76))),(9,(.slice (A103) ((aG o_91).length) (c104))),(10,(.slice (some ⟨g106,0,none⟩) (((aG a).length+2)-((aG b).length)) (((aG a).length+2)-((aG b).length)))),(11,(.int .i64 (((j:Nat):Int)-1)))]/\St w w' [(g106,209,(us (Q)).toArray),(g75,209,(us (U)++R77).toArray)]/\Ext w107 (g106 ::(g75::X)) w' (g106 ::(g75::X))/\(j<=(aG a).length+2-(aG b).length)/\(U.length=(aG a).length+2)/\(Lb U)/\(Q.length=(aG a).length+2-(aG b).length)/\(Lb Q)/\(DivInv (val a*sc) (val (aG o_91)) U Q j)/\j=mu) ?_ ?_
 ·
  exact⟨_,o_56++([0]),List.replicate (((aG a).length+2)-((aG b).length)) 0,((aG a).length+2-(aG b).length),(hF.all ⟨rfl,rfl,rfl,rfl,rfl,rfl,rfl,rfl,rfl,rfl,rfl,(dH rfl ω),trivial⟩),hS,Ext.refl _ _,(jg _),κ,(sW hob ω),η,(gV _),(by rw[<-hu0];exact DivInv.start (n:=(aG b).length) κ ω (sW hob ω) (by rw[show(aG a).length+2-(aG b).length+(aG b).length-1=_ from(show _=(_:List Nat).length by rw[hol];omega)];exact NU _) hvP),rfl⟩
 clear hF fa;intro n0_ fa w' hI;clear hS;obtain⟨U,Q,j,hF,hS,E111,hj,hUl,hbU,hQl,hbQ,hI,rfl⟩:=hI
 rename World=>w110
 refine bI ?_;refine bI ?_;refine bK ?_;refine pr hF (pm rfl <| pg (λ_ hF=>uo (hF.ev rfl) (hF.ev rfl)) <| PR.nil) ?_;clear hF fa;intro fa hF;refine aV ?_;refine iY hF rfl (λhc112=>?_) (λhc112=>?_)
 ·
  have hc112p:(((j:Nat):Int)-1)>=0:=by first|simpa using hc112|exact eP hc112|exact eG hc112
  refine jo ?_;refine dW ?_;refine bI ?_;refine iK ?_;refine bI ?_;have hdw:=hI.win (n:=(aG b).length) ω ω hvb hbU hvn;have htl:=afs hdw hn2 hvn hvb;have hua:=hbU.getD (j-1+(aG b).length);have hub:=hbU.getD (j-1+(aG b).length-1);have huc:=hbU.getD (j-1+(aG b).length-2);have hva1:=hvL ((aG b).length-1);have hva2:=hvL ((aG b).length-2)
  refine II (N:=179) (L0:=[(0,(.slice (A4) ((aG a).length) (c5))),(1,(.slice (A10) ((aG b).length) (c11))),(4,(.slice (none) (0) (0))),(5,(.slice (none) (0) (0))),(23,(.bool (decide ((((aG b).length:Nat):Int)=1)))),(34,(.bool (decide ((iy (val ((aG a))) (val ((aG b))))<0)))),(6,(.int .i64 ((((aG b).length:Nat):Int)))),(7,(.int .u32 (((sc:Nat):Int)))),(8,(.slice (some ⟨g75,0,none⟩) ((aG a).length+2) (c76))),(9,(.slice (A103) ((aG o_91).length) (c104))),(10,(.slice (some ⟨g106,0,none⟩) (((aG a).length+2)-((aG b).length)) (((aG a).length+2)-((aG b).length)))),(11,(.int .i64 (((j:Nat):Int)-1))),(70,(.bool (decide ((((j:Nat):Int)-1)>=0))))]) [some (.slice (some ⟨g75,0,none⟩) ((aG a).length+2) (c76)),some (.int .i64 (((j:Nat):Int)-1)),some (.int .i64 ((((aG b).length:Nat):Int))),some (.int .i64 ((((j:Nat):Int)-1)+(((aG b).length:Nat):Int))),some (.pointer (some ⟨g75,j-1+(aG b).length,none⟩)),some (.int .u32 (((U.getD (j-1+(aG b).length) 0:Nat):Int))),some (.int .u64 (((U.getD (j-1+(aG b).length) 0:Nat):Int))),some (.int .u64 (((U.getD (j-1+(aG b).length) 0:Nat):Int)*1000000000)),some (.slice (some ⟨g75,0,none⟩) ((aG a).length+2) (c76)),some (.int .i64 (((j:Nat):Int)-1)),some (.int .i64 ((((aG b).length:Nat):Int))),some (.int .i64 ((((j:Nat):Int)-1)+(((aG b).length:Nat):Int))),some (.int .i64 (((((j:Nat):Int)-1)+(((aG b).length:Nat):Int))-1)),some (.pointer (some ⟨g75,j-1+(aG b).length-1,none⟩)),some (.int .u32 (((U.getD (j-1+(aG b).length-1) 0:Nat):Int))),some (.int .u64 (((U.getD (j-1+(aG b).length-1) 0:Nat):Int))),some (.int .u64 ((((U.getD (j-1+(aG b).length) 0:Nat):Int)*1000000000)+((U.getD (j-1+(aG b).length-1) 0:Nat):Int))),some (.int .u64 ((((U.getD (j-1+(aG b).length) 0:Nat):Int)*1000000000)+((U.getD (j-1+(aG b).length-1) 0:Nat):Int)))] [] [[]] [[0],[0],[0],[0],[0],[0],[0],[0],[0],[0],[0],[0],[0],[0],[0],[0],[0],[0]] 0 [
   λfa w'=>Frm 179 fa []/\St w w' [(g106,209,(us (Q)).toArray),(g75,209,(us (U)++R77).toArray)]/\Ext w110 (g106 ::(g75::X)) w' (g106 ::(g75::X))
   ] TfR.mixed rfl rfl rfl rfl rfl rfl (hF.all ⟨rfl,rfl,rfl,rfl,rfl,rfl,rfl,rfl,rfl,rfl,rfl,rfl,rfl,trivial⟩) rfl ⟨hF.nil,hS.drew,Ext.drew _ _⟩ ?_ ?_ ?_
  all_goals clear hF fa
  ·
   refine⟨?_,trivial⟩
   ·
    rintro fa w' i o d v ho hd hna ⟨hA,hR⟩;exact⟨hA.put_other v (vk (acts:=[]) rfl ho hd hna),hR⟩
  ·
   refine⟨?_, ?_, ?_, ?_, ?_, ?_, ?_, ?_, ?_, ?_, ?_, ?_, ?_, ?_, ?_, ?_, ?_, ?_,trivial⟩
   ·
    refine .inl ⟨rfl,_,_,rfl,rfl,λs fa w' hΦ hF hB K hK=>?_⟩;exact dG rfl rfl rfl (bT (hF.ev rfl)) hK
   ·
    refine .inl ⟨rfl,_,_,rfl,rfl,λs fa w' hΦ hF hB K hK=>?_⟩;exact dG rfl rfl rfl (bT (hF.ev rfl)) hK
   ·
    refine .inl ⟨rfl,_,_,rfl,rfl,λs fa w' hΦ hF hB K hK=>?_⟩;exact dG rfl rfl rfl (bT (hF.ev rfl)) hK
   ·
    refine .inl ⟨rfl,_,_,rfl,rfl,λs fa w' hΦ hF hB K hK=>?_⟩;replace hF:=hF.cons (hB.val 1 _ 74 _ rfl rfl rfl rfl);replace hF:=hF.cons (hB.val 2 _ 75 _ rfl rfl rfl rfl);exact dG rfl rfl rfl (dX (hF.ev rfl) (hF.ev rfl) jY) hK
   ·
    refine .inl ⟨rfl,_,_,rfl,rfl,λs fa w' hΦ hF hB K hK=>?_⟩;replace hF:=hF.cons (hB.val 0 _ 73 _ rfl rfl rfl rfl);replace hF:=hF.cons (hB.val 3 _ 76 _ rfl rfl rfl rfl);exact dG rfl rfl rfl (qo (j:=j-1+(aG b).length) TfR.sl27 (hF.ev rfl) (hF.ev rfl) ω ω) hK
   ·
    refine .inr (.inl ⟨rfl,_,_,rfl,rfl, ?_,trivial⟩)
    ·
     intro fa w' hΦ hF hB K hK;obtain⟨hA,hS,E_w'⟩:=hΦ;replace hF:=hF.cons (hB.val 4 _ 77 _ rfl rfl rfl rfl);exact dG rfl rfl rfl (jZ TfR.one209 (hF.ev rfl) (hS.get 1 rfl) (uS (by first|omega|(simp;omega)))) hK
   ·
    refine .inl ⟨rfl,_,_,rfl,rfl,λs fa w' hΦ hF hB K hK=>?_⟩;replace hF:=hF.cons (hB.val 5 _ 78 _ rfl rfl rfl rfl);exact dG rfl rfl rfl (fH TfR.unds209 TfR.und194 (hF.ev rfl) (mF ω)) hK
   ·
    refine .inl ⟨rfl,_,_,rfl,rfl,λs fa w' hΦ hF hB K hK=>?_⟩;replace hF:=hF.cons (hB.val 6 _ 79 _ rfl rfl rfl rfl);exact dG rfl rfl rfl (zT (hF.ev rfl) (hF.ev rfl) oJ) hK
   ·
    refine .inl ⟨rfl,_,_,rfl,rfl,λs fa w' hΦ hF hB K hK=>?_⟩;exact dG rfl rfl rfl (bT (hF.ev rfl)) hK
   ·
    refine .inl ⟨rfl,_,_,rfl,rfl,λs fa w' hΦ hF hB K hK=>?_⟩;exact dG rfl rfl rfl (bT (hF.ev rfl)) hK
   ·
    refine .inl ⟨rfl,_,_,rfl,rfl,λs fa w' hΦ hF hB K hK=>?_⟩;exact dG rfl rfl rfl (bT (hF.ev rfl)) hK
   ·
    refine .inl ⟨rfl,_,_,rfl,rfl,λs fa w' hΦ hF hB K hK=>?_⟩;replace hF:=hF.cons (hB.val 9 _ 82 _ rfl rfl rfl rfl);replace hF:=hF.cons (hB.val 10 _ 83 _ rfl rfl rfl rfl);exact dG rfl rfl rfl (dX (hF.ev rfl) (hF.ev rfl) jY) hK
   ·
    refine .inl ⟨rfl,_,_,rfl,rfl,λs fa w' hΦ hF hB K hK=>?_⟩;replace hF:=hF.cons (hB.val 11 _ 84 _ rfl rfl rfl rfl);exact dG rfl rfl rfl (iI (hF.ev rfl) (hF.ev rfl) jY) hK
   ·
    refine .inl ⟨rfl,_,_,rfl,rfl,λs fa w' hΦ hF hB K hK=>?_⟩;replace hF:=hF.cons (hB.val 8 _ 81 _ rfl rfl rfl rfl);replace hF:=hF.cons (hB.val 12 _ 85 _ rfl rfl rfl rfl);exact dG rfl rfl rfl (qo (j:=j-1+(aG b).length-1) TfR.sl27 (hF.ev rfl) (hF.ev rfl) ω ω) hK
   ·
    refine .inr (.inl ⟨rfl,_,_,rfl,rfl, ?_,trivial⟩)
    ·
     intro fa w' hΦ hF hB K hK;obtain⟨hA,hS,E_w'⟩:=hΦ;replace hF:=hF.cons (hB.val 13 _ 86 _ rfl rfl rfl rfl);exact dG rfl rfl rfl (jZ TfR.one209 (hF.ev rfl) (hS.get 1 rfl) (uS (by first|omega|(simp;omega)))) hK
   ·
    refine .inl ⟨rfl,_,_,rfl,rfl,λs fa w' hΦ hF hB K hK=>?_⟩;replace hF:=hF.cons (hB.val 14 _ 87 _ rfl rfl rfl rfl);exact dG rfl rfl rfl (fH TfR.unds209 TfR.und194 (hF.ev rfl) (mF ω)) hK
   ·
    refine .inl ⟨rfl,_,_,rfl,rfl,λs fa w' hΦ hF hB K hK=>?_⟩;replace hF:=hF.cons (hB.val 7 _ 80 _ rfl rfl rfl rfl);replace hF:=hF.cons (hB.val 15 _ 88 _ rfl rfl rfl rfl);exact dG rfl rfl rfl (dX (hF.ev rfl) (hF.ev rfl) oJ) hK
   ·
    refine .inl ⟨rfl,_,_,rfl,rfl,λs fa w' hΦ hF hB K hK=>?_⟩;replace hF:=hF.cons (hB.val 16 _ 89 _ rfl rfl rfl rfl);exact dG rfl rfl rfl (jF (hF.ev rfl)) hK
  intro fa w113 hΦ hF hC;obtain⟨hA,hS,E_w113⟩:=hΦ;replace hF:=hF.cons (hC 17 _ 12 _ rfl rfl rfl);clear hA hC;refine dW ?_;refine bI ?_;obtain⟨ad_94,hA_94,hq_94⟩:=(hu105.ext ((E108.trans E111).trans E_w113)).cl.at2 (mW (l:=(aG o_91)) (i:=(aG b).length-1) ω);obtain⟨ad_102,hA_102,hq_102⟩:=(hu105.ext ((E108.trans E111).trans E_w113)).cl.at2 (mW (l:=(aG o_91)) (i:=(aG b).length-1) ω)
  refine II (N:=179) (L0:=[(0,(.slice (A4) ((aG a).length) (c5))),(1,(.slice (A10) ((aG b).length) (c11))),(4,(.slice (none) (0) (0))),(5,(.slice (none) (0) (0))),(23,(.bool (decide ((((aG b).length:Nat):Int)=1)))),(34,(.bool (decide ((iy (val ((aG a))) (val ((aG b))))<0)))),(6,(.int .i64 ((((aG b).length:Nat):Int)))),(7,(.int .u32 (((sc:Nat):Int)))),(8,(.slice (some ⟨g75,0,none⟩) ((aG a).length+2) (c76))),(9,(.slice (A103) ((aG o_91).length) (c104))),(10,(.slice (some ⟨g106,0,none⟩) (((aG a).length+2)-((aG b).length)) (((aG a).length+2)-((aG b).length)))),(11,(.int .i64 (((j:Nat):Int)-1))),(70,(.bool (decide ((((j:Nat):Int)-1)>=0)))),(12,(.int .u64 ((((U.getD (j-1+(aG b).length) 0:Nat):Int)*1000000000)+((U.getD (j-1+(aG b).length-1) 0:Nat):Int))))]) [some (.int .u64 ((((U.getD (j-1+(aG b).length) 0:Nat):Int)*1000000000)+((U.getD (j-1+(aG b).length-1) 0:Nat):Int))),some (.slice (A103) ((aG o_91).length) (c104)),some (.int .i64 ((((aG b).length:Nat):Int))),some (.int .i64 ((((aG b).length:Nat):Int)-1)),some (.pointer (some (ad_94.add ((aG b).length-1)))),some (.int .u32 ((((aG o_91).getD ((aG b).length-1) 0:Nat):Int))),some (.int .u64 ((((aG o_91).getD ((aG b).length-1) 0:Nat):Int))),some (.int .u64 ((((((U.getD (j-1+(aG b).length) 0)*1000000000)+(U.getD (j-1+(aG b).length-1) 0))/((aG o_91).getD ((aG b).length-1) 0):Nat):Int))),some (.int .u64 ((((U.getD (j-1+(aG b).length) 0:Nat):Int)*1000000000)+((U.getD (j-1+(aG b).length-1) 0:Nat):Int))),some (.slice (A103) ((aG o_91).length) (c104)),some (.int .i64 ((((aG b).length:Nat):Int))),some (.int .i64 ((((aG b).length:Nat):Int)-1)),some (.pointer (some (ad_102.add ((aG b).length-1)))),some (.int .u32 ((((aG o_91).getD ((aG b).length-1) 0:Nat):Int))),some (.int .u64 ((((aG o_91).getD ((aG b).length-1) 0:Nat):Int))),some (.int .u64 ((((((U.getD (j-1+(aG b).length) 0)*1000000000)+(U.getD (j-1+(aG b).length-1) 0))%((aG o_91).getD ((aG b).length-1) 0):Nat):Int))),some (.int .u64 ((((((U.getD (j-1+(aG b).length) 0)*1000000000)+(U.getD (j-1+(aG b).length-1) 0))/((aG o_91).getD ((aG b).length-1) 0):Nat):Int))),some (.int .u64 ((((((U.getD (j-1+(aG b).length) 0)*1000000000)+(U.getD (j-1+(aG b).length-1) 0))%((aG o_91).getD ((aG b).length-1) 0):Nat):Int)))] [] [[]] [[0],[0],[0],[0],[0],[0],[0],[0],[0],[0],[0],[0],[0],[0],[0],[0],[0],[0]] 0 [
   λfa w'=>Frm 179 fa []/\St w w' [(g106,209,(us (Q)).toArray),(g75,209,(us (U)++R77).toArray)]/\Ext w113 (g106 ::(g75::X)) w' (g106 ::(g75::X))
   ] TfR.mixed rfl rfl rfl rfl rfl rfl (hF.all ⟨rfl,rfl,rfl,rfl,rfl,rfl,rfl,rfl,rfl,rfl,rfl,rfl,rfl,rfl,trivial⟩) rfl ⟨hF.nil,hS.drew,Ext.drew _ _⟩ ?_ ?_ ?_
  all_goals clear hF fa
  ·
   refine⟨?_,trivial⟩
   ·
    rintro fa w' i o d v ho hd hna ⟨hA,hR⟩;exact⟨hA.put_other v (vk (acts:=[]) rfl ho hd hna),hR⟩
  ·
   refine⟨?_, ?_, ?_, ?_, ?_, ?_, ?_, ?_, ?_, ?_, ?_, ?_, ?_, ?_, ?_, ?_, ?_, ?_,trivial⟩
   ·
    refine .inl ⟨rfl,_,_,rfl,rfl,λs fa w' hΦ hF hB K hK=>?_⟩;exact dG rfl rfl rfl (bT (hF.ev rfl)) hK
   ·
    refine .inl ⟨rfl,_,_,rfl,rfl,λs fa w' hΦ hF hB K hK=>?_⟩;exact dG rfl rfl rfl (bT (hF.ev rfl)) hK
   ·
    refine .inl ⟨rfl,_,_,rfl,rfl,λs fa w' hΦ hF hB K hK=>?_⟩;exact dG rfl rfl rfl (bT (hF.ev rfl)) hK
   ·
    refine .inl ⟨rfl,_,_,rfl,rfl,λs fa w' hΦ hF hB K hK=>?_⟩;replace hF:=hF.cons (hB.val 2 _ 92 _ rfl rfl rfl rfl);exact dG rfl rfl rfl (iI (hF.ev rfl) (hF.ev rfl) jY) hK
   ·
    refine .inl ⟨rfl,_,_,rfl,rfl,λs fa w' hΦ hF hB K hK=>?_⟩;replace hF:=hF.cons (hB.val 1 _ 91 _ rfl rfl rfl rfl);replace hF:=hF.cons (hB.val 3 _ 93 _ rfl rfl rfl rfl);exact dG rfl rfl rfl (mZ (j:=(aG b).length-1) TfR.sl27 (hF.ev rfl) hA_94 (hF.ev rfl) ω ω) hK
   ·
    refine .inr (.inl ⟨rfl,_,_,rfl,rfl, ?_,trivial⟩)
    ·
     intro fa w' hΦ hF hB K hK;obtain⟨hA,hS,E_w'⟩:=hΦ;replace hF:=hF.cons (hB.val 4 _ 94 _ rfl rfl rfl rfl);exact dG rfl rfl rfl (iP TfR.one209 (hF.ev rfl) (hq_94 E_w')) hK
   ·
    refine .inl ⟨rfl,_,_,rfl,rfl,λs fa w' hΦ hF hB K hK=>?_⟩;replace hF:=hF.cons (hB.val 5 _ 95 _ rfl rfl rfl rfl);exact dG rfl rfl rfl (fH TfR.unds209 TfR.und194 (hF.ev rfl) (mF ω)) hK
   ·
    refine .inl ⟨rfl,_,_,rfl,rfl,λs fa w' hΦ hF hB K hK=>?_⟩;replace hF:=hF.cons (hB.val 0 _ 90 _ rfl rfl rfl rfl);replace hF:=hF.cons (hB.val 6 _ 96 _ rfl rfl rfl rfl);exact dG rfl rfl rfl (zJ (hF.ev rfl) (hF.ev rfl) ω (LV (x:=((U.getD (j-1+(aG b).length) 0)*1000000000)+(U.getD (j-1+(aG b).length-1) 0)) (y:=(aG o_91).getD ((aG b).length-1) 0) ω ω ω)) hK
   ·
    refine .inl ⟨rfl,_,_,rfl,rfl,λs fa w' hΦ hF hB K hK=>?_⟩;exact dG rfl rfl rfl (bT (hF.ev rfl)) hK
   ·
    refine .inl ⟨rfl,_,_,rfl,rfl,λs fa w' hΦ hF hB K hK=>?_⟩;exact dG rfl rfl rfl (bT (hF.ev rfl)) hK
   ·
    refine .inl ⟨rfl,_,_,rfl,rfl,λs fa w' hΦ hF hB K hK=>?_⟩;exact dG rfl rfl rfl (bT (hF.ev rfl)) hK
   ·
    refine .inl ⟨rfl,_,_,rfl,rfl,λs fa w' hΦ hF hB K hK=>?_⟩;replace hF:=hF.cons (hB.val 10 _ 100 _ rfl rfl rfl rfl);exact dG rfl rfl rfl (iI (hF.ev rfl) (hF.ev rfl) jY) hK
   ·
    refine .inl ⟨rfl,_,_,rfl,rfl,λs fa w' hΦ hF hB K hK=>?_⟩;replace hF:=hF.cons (hB.val 9 _ 99 _ rfl rfl rfl rfl);replace hF:=hF.cons (hB.val 11 _ 101 _ rfl rfl rfl rfl);exact dG rfl rfl rfl (mZ (j:=(aG b).length-1) TfR.sl27 (hF.ev rfl) hA_102 (hF.ev rfl) ω ω) hK
   ·
    refine .inr (.inl ⟨rfl,_,_,rfl,rfl, ?_,trivial⟩)
    ·
     intro fa w' hΦ hF hB K hK;obtain⟨hA,hS,E_w'⟩:=hΦ;replace hF:=hF.cons (hB.val 12 _ 102 _ rfl rfl rfl rfl);exact dG rfl rfl rfl (iP TfR.one209 (hF.ev rfl) (hq_102 E_w')) hK
   ·
    refine .inl ⟨rfl,_,_,rfl,rfl,λs fa w' hΦ hF hB K hK=>?_⟩;replace hF:=hF.cons (hB.val 13 _ 103 _ rfl rfl rfl rfl);exact dG rfl rfl rfl (fH TfR.unds209 TfR.und194 (hF.ev rfl) (mF ω)) hK
   ·
    refine .inl ⟨rfl,_,_,rfl,rfl,λs fa w' hΦ hF hB K hK=>?_⟩;replace hF:=hF.cons (hB.val 8 _ 98 _ rfl rfl rfl rfl);replace hF:=hF.cons (hB.val 14 _ 104 _ rfl rfl rfl rfl);exact dG rfl rfl rfl (Ep (hF.ev rfl) (hF.ev rfl) ω (Ro (x:=((U.getD (j-1+(aG b).length) 0)*1000000000)+(U.getD (j-1+(aG b).length-1) 0)) (y:=(aG o_91).getD ((aG b).length-1) 0) ω ω)) hK
   ·
    refine .inl ⟨rfl,_,_,rfl,rfl,λs fa w' hΦ hF hB K hK=>?_⟩;replace hF:=hF.cons (hB.val 7 _ 97 _ rfl rfl rfl rfl);exact dG rfl rfl rfl (jF (hF.ev rfl)) hK
   ·
    refine .inl ⟨rfl,_,_,rfl,rfl,λs fa w' hΦ hF hB K hK=>?_⟩;replace hF:=hF.cons (hB.val 15 _ 105 _ rfl rfl rfl rfl);exact dG rfl rfl rfl (jF (hF.ev rfl)) hK
  intro fa w114 hΦ hF hC;obtain⟨hA,hS,E_w114⟩:=hΦ;replace hF:=hF.cons (hC 16 _ 13 _ rfl rfl rfl);replace hF:=hF.cons (hC 17 _ 14 _ rfl rfl rfl);clear hA hC;refine dW ?_;refine WX (λfa w'=>∃gs:Nat,Frm 179 fa [(0,(.slice (A4) ((aG a).length) (c5))),(1,(.slice (A10) ((aG b).length) (c11))),(4,(.slice (none) (0) (0))),(5,(.slice (none) (0) (0))),(23,(.bool (decide ((((aG b).length:Nat):Int)=1)))),(34,(.bool (decide ((iy (val ((aG a))) (val ((aG b))))<0)))),(6,(.int .i64 ((((aG b).length:Nat):Int)))),(7,(.int .u32 (((sc:Nat):Int)))),(8,(.slice (some ⟨g75,0,none⟩) ((aG a).length+2) (c76))),(9,(.slice (A103) ((aG o_91).length) (c104))),(10,(.slice (some ⟨g106,0,none⟩) (((aG a).length+2)-((aG b).length)) (((aG a).length+2)-((aG b).length)))),(11,(.int .i64 (((j:Nat):Int)-1))),(70,(.bool (decide ((((j:Nat):Int)-1)>=0)))),(12,(.int .u64 ((((U.getD (j-1+(aG b).length) 0:Nat):Int)*1000000000)+((U.getD (j-1+(aG b).length-1) 0:Nat):Int)))),(13,(.int .u64 (((gs:Nat):Int))))]/\St w w' [(g106,209,(us (Q)).toArray),(g75,209,(us (U)++R77).toArray)]/\Ext w114 (g106 ::(g75::X)) w' (g106 ::(g75::X))/\(gs<1000000000)/\(gs*val (aG o_91)<=val (win U (j-1) ((aG b).length+1))+val (aG o_91))/\(val (win U (j-1) ((aG b).length+1))<(gs+1)*val (aG o_91))) ?_ ?_
  ·
   refine iK ?_;refine uQ (λmu fa w'=>∃g:Nat,∃r:Nat,Frm 179 fa [(0,(.slice (A4) ((aG a).length) (c5))),(1,(.slice (A10) ((aG b).length) (c11))),(4,(.slice (none) (0) (0))),(5,(.slice (none) (0) (0))),(23,(.bool (decide ((((aG b).length:Nat):Int)=1)))),(34,(.bool (decide ((iy (val ((aG a))) (val ((aG b))))<0)))),(6,(.int .i64 ((((aG b).length:Nat):Int)))),(7,(.int .u32 (((sc:Nat):Int)))),(8,(.slice (some ⟨g75,0,none⟩) ((aG a).length+2) (c76))),(9,(.slice (A103) ((aG o_91).length) (c104))),(10,(.slice (some ⟨g106,0,none⟩) (((aG a).length+2)-((aG b).length)) (((aG a).length+2)-((aG b).length)))),(11,(.int .i64 (((j:Nat):Int)-1))),(70,(.bool (decide ((((j:Nat):Int)-1)>=0)))),(12,(.int .u64 ((((U.getD (j-1+(aG b).length) 0:Nat):Int)*1000000000)+((U.getD (j-1+(aG b).length-1) 0:Nat):Int)))),(13,(.int .u64 (((g:Nat):Int)))),(14,(.int .u64 (((r:Nat):Int))))]/\St w w' [(g106,209,(us (Q)).toArray),(g75,209,(us (U)++R77).toArray)]/\Ext w114 (g106 ::(g75::X)) w' (g106 ::(g75::X))/\(g*(aG o_91).getD ((aG b).length-1) 0+r=U.getD (j-1+(aG b).length) 0*1000000000+U.getD (j-1+(aG b).length-1) 0)/\(r<1000000000)/\(g<=1000000001)/\(val (win U (j-1) ((aG b).length+1))<(g+1)*val (aG o_91))/\g=mu) ?_ ?_
   ·
    exact⟨_,(((U.getD (j-1+(aG b).length) 0)*1000000000)+(U.getD (j-1+(aG b).length-1) 0))/((aG o_91).getD ((aG b).length-1) 0),(((U.getD (j-1+(aG b).length) 0)*1000000000)+(U.getD (j-1+(aG b).length-1) 0))%((aG o_91).getD ((aG b).length-1) 0),(hF.all ⟨rfl,rfl,rfl,rfl,rfl,rfl,rfl,rfl,rfl,rfl,rfl,rfl,rfl,rfl,(dH rfl ω),(dH rfl ω),trivial⟩),hS,Ext.refl _ _,(by rw[Gx];exact Nat.div_add_mod _ _),(Ea (qx _ ω) ω),((Rw hdw hn2 hvn hvb hbU hvtop rfl).2),((Rw hdw hn2 hvn hvb hbU hvtop rfl).1),rfl⟩
   clear hF fa;intro n1_ fa w' hI;clear hS;obtain⟨g,r,hF,hS,E118,hgr,hrb,hgb,hgw,rfl⟩:=hI
   rename World=>w117
   have hgm:g*(aG o_91).getD ((aG b).length-2) 0<=1000000001*999999999:=MZ hgb (by have:=hvL ((aG b).length-2);omega);refine bI ?_;refine bI ?_;rcases Bool.eq_false_or_eq_true (decide (((g:Nat):Int)>=1000000000))with hk119|hk119
   ·
    have hk119p:=hk119;simp at hk119p;have hgB:=of_decide_eq_true hk119;have hgp:0<g:=ω
    have hw1:=ae4 (g:=g) hdw ω
    refine II (N:=179) (L0:=[(0,(.slice (A4) ((aG a).length) (c5))),(1,(.slice (A10) ((aG b).length) (c11))),(4,(.slice (none) (0) (0))),(5,(.slice (none) (0) (0))),(23,(.bool (decide ((((aG b).length:Nat):Int)=1)))),(34,(.bool (decide ((iy (val ((aG a))) (val ((aG b))))<0)))),(6,(.int .i64 ((((aG b).length:Nat):Int)))),(7,(.int .u32 (((sc:Nat):Int)))),(8,(.slice (some ⟨g75,0,none⟩) ((aG a).length+2) (c76))),(9,(.slice (A103) ((aG o_91).length) (c104))),(10,(.slice (some ⟨g106,0,none⟩) (((aG a).length+2)-((aG b).length)) (((aG a).length+2)-((aG b).length)))),(11,(.int .i64 (((j:Nat):Int)-1))),(70,(.bool (decide ((((j:Nat):Int)-1)>=0)))),(12,(.int .u64 ((((U.getD (j-1+(aG b).length) 0:Nat):Int)*1000000000)+((U.getD (j-1+(aG b).length-1) 0:Nat):Int)))),(13,(.int .u64 (((g:Nat):Int)))),(14,(.int .u64 (((r:Nat):Int))))]) [some (.int .u64 (((g:Nat):Int))),some (.bool (true)),some (.bool (true)),some undef,some undef,some undef,some undef,some undef,some undef,some undef,some undef,some undef,some undef,some undef,some undef,some undef,some undef,some undef,some undef,some undef,some undef,some undef,some undef,some (.bool (true))] [] [[]] [[0],[0],[0],[0],[0],[0],[0],[0],[0],[0],[0],[0],[0],[0],[0],[0],[0],[0],[0],[0],[0],[0],[0],[0]] 0 [
     λfa w'=>Frm 179 fa []/\St w w' [(g106,209,(us (Q)).toArray),(g75,209,(us (U)++R77).toArray)]/\Ext w117 (g106 ::(g75::X)) w' (g106 ::(g75::X))
     ] TfR.mixed rfl rfl rfl rfl rfl rfl (hF.all ⟨rfl,rfl,rfl,rfl,rfl,rfl,rfl,rfl,rfl,rfl,rfl,rfl,rfl,rfl,rfl,rfl,trivial⟩) rfl ⟨hF.nil,hS.drew,Ext.drew _ _⟩ ?_ ?_ ?_
    all_goals clear hF fa
    ·
     refine⟨?_,trivial⟩
     ·
      rintro fa w' i o d v ho hd hna ⟨hA,hR⟩;exact⟨hA.put_other v (vk (acts:=[]) rfl ho hd hna),hR⟩
    ·
     refine⟨?_, ?_, ?_, ?_, ?_, ?_, ?_, ?_, ?_, ?_, ?_, ?_, ?_, ?_, ?_, ?_, ?_, ?_, ?_, ?_, ?_, ?_, ?_, ?_,trivial⟩
     ·
      refine .inl ⟨rfl,_,_,rfl,rfl,λs fa w' hΦ hF hB K hK=>?_⟩;exact dG rfl rfl rfl (bT (hF.ev rfl)) hK
     ·
      refine .inl ⟨rfl,_,_,rfl,rfl,λs fa w' hΦ hF hB K hK=>?_⟩;replace hF:=hF.cons (hB.val 0 _ 106 _ rfl rfl rfl rfl);exact dG rfl rfl rfl (agp hk119 (uo (hF.ev rfl) (hF.ev rfl))) hK
     ·
      refine .inl ⟨rfl,_,_,rfl,rfl,λs fa w' hΦ hF hB K hK=>?_⟩;replace hF:=hF.cons (hB.val 1 _ 107 _ rfl rfl rfl rfl);exact dG rfl rfl rfl (bT (hF.ev rfl)) hK
     ·
      refine .inl ⟨rfl,_,_,rfl,rfl,λs fa w' hΦ hF hB K hK=>?_⟩;replace hF:=hF.cons (hB.val 2 _ 108 _ rfl rfl rfl rfl);exact ig hF rfl rfl rfl rfl rfl hK
     ·
      refine .inl ⟨rfl,_,_,rfl,rfl,λs fa w' hΦ hF hB K hK=>?_⟩;replace hF:=hF.cons (hB.val 2 _ 108 _ rfl rfl rfl rfl);exact ig hF rfl rfl rfl rfl rfl hK
     ·
      refine .inl ⟨rfl,_,_,rfl,rfl,λs fa w' hΦ hF hB K hK=>?_⟩;replace hF:=hF.cons (hB.val 2 _ 108 _ rfl rfl rfl rfl);exact ig hF rfl rfl rfl rfl rfl hK
     ·
      refine .inl ⟨rfl,_,_,rfl,rfl,λs fa w' hΦ hF hB K hK=>?_⟩;replace hF:=hF.cons (hB.val 5 _ 111 _ rfl rfl rfl rfl);replace hF:=hF.cons (hB.val 2 _ 108 _ rfl rfl rfl rfl);exact ig hF rfl rfl rfl rfl rfl hK
     ·
      refine .inl ⟨rfl,_,_,rfl,rfl,λs fa w' hΦ hF hB K hK=>?_⟩;replace hF:=hF.cons (hB.val 4 _ 110 _ rfl rfl rfl rfl);replace hF:=hF.cons (hB.val 6 _ 112 _ rfl rfl rfl rfl);replace hF:=hF.cons (hB.val 2 _ 108 _ rfl rfl rfl rfl);exact ig hF rfl rfl rfl rfl rfl hK
     ·
      refine .inl ⟨rfl,_,_,rfl,rfl,λs fa w' hΦ hF hB K hK=>?_⟩;replace hF:=hF.cons (hB.val 7 _ 113 _ rfl rfl rfl rfl);replace hF:=hF.cons (hB.val 2 _ 108 _ rfl rfl rfl rfl);exact ig hF rfl rfl rfl rfl rfl hK
     ·
      refine .inl ⟨rfl,_,_,rfl,rfl,λs fa w' hΦ hF hB K hK=>?_⟩;replace hF:=hF.cons (hB.val 8 _ 114 _ rfl rfl rfl rfl);replace hF:=hF.cons (hB.val 2 _ 108 _ rfl rfl rfl rfl);exact ig hF rfl rfl rfl rfl rfl hK
     ·
      refine .inl ⟨rfl,_,_,rfl,rfl,λs fa w' hΦ hF hB K hK=>?_⟩;replace hF:=hF.cons (hB.val 3 _ 109 _ rfl rfl rfl rfl);replace hF:=hF.cons (hB.val 9 _ 115 _ rfl rfl rfl rfl);replace hF:=hF.cons (hB.val 2 _ 108 _ rfl rfl rfl rfl);exact ig hF rfl rfl rfl rfl rfl hK
     ·
      refine .inl ⟨rfl,_,_,rfl,rfl,λs fa w' hΦ hF hB K hK=>?_⟩;replace hF:=hF.cons (hB.val 2 _ 108 _ rfl rfl rfl rfl);exact ig hF rfl rfl rfl rfl rfl hK
     ·
      refine .inl ⟨rfl,_,_,rfl,rfl,λs fa w' hΦ hF hB K hK=>?_⟩;replace hF:=hF.cons (hB.val 11 _ 117 _ rfl rfl rfl rfl);replace hF:=hF.cons (hB.val 2 _ 108 _ rfl rfl rfl rfl);exact ig hF rfl rfl rfl rfl rfl hK
     ·
      refine .inl ⟨rfl,_,_,rfl,rfl,λs fa w' hΦ hF hB K hK=>?_⟩;replace hF:=hF.cons (hB.val 2 _ 108 _ rfl rfl rfl rfl);exact ig hF rfl rfl rfl rfl rfl hK
     ·
      refine .inl ⟨rfl,_,_,rfl,rfl,λs fa w' hΦ hF hB K hK=>?_⟩;replace hF:=hF.cons (hB.val 2 _ 108 _ rfl rfl rfl rfl);exact ig hF rfl rfl rfl rfl rfl hK
     ·
      refine .inl ⟨rfl,_,_,rfl,rfl,λs fa w' hΦ hF hB K hK=>?_⟩;replace hF:=hF.cons (hB.val 2 _ 108 _ rfl rfl rfl rfl);exact ig hF rfl rfl rfl rfl rfl hK
     ·
      refine .inl ⟨rfl,_,_,rfl,rfl,λs fa w' hΦ hF hB K hK=>?_⟩;replace hF:=hF.cons (hB.val 14 _ 120 _ rfl rfl rfl rfl);replace hF:=hF.cons (hB.val 15 _ 121 _ rfl rfl rfl rfl);replace hF:=hF.cons (hB.val 2 _ 108 _ rfl rfl rfl rfl);exact ig hF rfl rfl rfl rfl rfl hK
     ·
      refine .inl ⟨rfl,_,_,rfl,rfl,λs fa w' hΦ hF hB K hK=>?_⟩;replace hF:=hF.cons (hB.val 16 _ 122 _ rfl rfl rfl rfl);replace hF:=hF.cons (hB.val 2 _ 108 _ rfl rfl rfl rfl);exact ig hF rfl rfl rfl rfl rfl hK
     ·
      refine .inl ⟨rfl,_,_,rfl,rfl,λs fa w' hΦ hF hB K hK=>?_⟩;replace hF:=hF.cons (hB.val 13 _ 119 _ rfl rfl rfl rfl);replace hF:=hF.cons (hB.val 17 _ 123 _ rfl rfl rfl rfl);replace hF:=hF.cons (hB.val 2 _ 108 _ rfl rfl rfl rfl);exact ig hF rfl rfl rfl rfl rfl hK
     ·
      refine .inl ⟨rfl,_,_,rfl,rfl,λs fa w' hΦ hF hB K hK=>?_⟩;replace hF:=hF.cons (hB.val 18 _ 124 _ rfl rfl rfl rfl);replace hF:=hF.cons (hB.val 2 _ 108 _ rfl rfl rfl rfl);exact ig hF rfl rfl rfl rfl rfl hK
     ·
      refine .inl ⟨rfl,_,_,rfl,rfl,λs fa w' hΦ hF hB K hK=>?_⟩;replace hF:=hF.cons (hB.val 19 _ 125 _ rfl rfl rfl rfl);replace hF:=hF.cons (hB.val 2 _ 108 _ rfl rfl rfl rfl);exact ig hF rfl rfl rfl rfl rfl hK
     ·
      refine .inl ⟨rfl,_,_,rfl,rfl,λs fa w' hΦ hF hB K hK=>?_⟩;replace hF:=hF.cons (hB.val 12 _ 118 _ rfl rfl rfl rfl);replace hF:=hF.cons (hB.val 20 _ 126 _ rfl rfl rfl rfl);replace hF:=hF.cons (hB.val 2 _ 108 _ rfl rfl rfl rfl);exact ig hF rfl rfl rfl rfl rfl hK
     ·
      refine .inl ⟨rfl,_,_,rfl,rfl,λs fa w' hΦ hF hB K hK=>?_⟩;replace hF:=hF.cons (hB.val 10 _ 116 _ rfl rfl rfl rfl);replace hF:=hF.cons (hB.val 21 _ 127 _ rfl rfl rfl rfl);replace hF:=hF.cons (hB.val 2 _ 108 _ rfl rfl rfl rfl);exact ig hF rfl rfl rfl rfl rfl hK
     ·
      refine .inl ⟨rfl,_,_,rfl,rfl,λs fa w' hΦ hF hB K hK=>?_⟩;replace hF:=hF.cons (hB.val 2 _ 108 _ rfl rfl rfl rfl);replace hF:=hF.cons (hB.val 22 _ 128 _ rfl rfl rfl rfl);exact dG rfl rfl rfl (vS (hF.ev rfl) (λ_=>hF.ev rfl) (v:=undef) (λh=>by cases h) rfl) hK
    intro fa w120 hΦ hF hC;obtain⟨hA,hS,E_w120⟩:=hΦ;replace hF:=hF.cons (hC 23 _ 129 _ rfl rfl rfl);clear hA hC;refine dW ?_;refine iY hF rfl (λhc=>?_) (λhc=>?_)
    rotate_left
    ·
     cases hc
    refine jo ?_;refine dW ?_;refine iK ?_;refine bI ?_;refine bK ?_;refine pr hF (pm rfl <| pg (λ_ hF=>iI (hF.ev rfl) (hF.ev rfl) oJ) <| pa rfl <| PR.nil) ?_;clear hF fa;intro fa hF;refine aV ?_;refine bI ?_;refine bK ?_;refine pr hF (pm rfl <| pm rfl <| pm rfl <| pg (λ_ hF=>iI (hF.ev rfl) (hF.ev rfl) jY) <| PR.nil) ?_;clear hF fa;intro fa hF;obtain⟨ad121,hA122,hq123⟩:=(hu105.ext (((((E108.trans E111).trans E_w113).trans E_w114).trans E118).trans E_w120)).cl.at_ (mW (l:=(aG o_91)) (i:=(aG b).length-1) ω);refine pr hF (pg (λ_ hF=>mZ (j:=(aG b).length-1) TfR.sl27 (hF.ev rfl) hA122 (hF.ev rfl) ω ω) <| pg (λ_ hF=>iP TfR.one209 (hF.ev rfl) hq123) <| pg (λ_ hF=>fH TfR.unds209 TfR.und194 (hF.ev rfl) (mF ω)) <| pg (λ_ hF=>dX (hF.ev rfl) (hF.ev rfl) oJ) <| pa rfl <| PR.nil) ?_;clear hF fa;intro fa hF;replace hF:Frm 179 fa [(0,(.slice (A4) ((aG a).length) (c5))),(1,(.slice (A10) ((aG b).length) (c11))),(4,(.slice (none) (0) (0))),(5,(.slice (none) (0) (0))),(23,(.bool (decide ((((aG b).length:Nat):Int)=1)))),(34,(.bool (decide ((iy (val ((aG a))) (val ((aG b))))<0)))),(6,(.int .i64 ((((aG b).length:Nat):Int)))),(7,(.int .u32 (((sc:Nat):Int)))),(8,(.slice (some ⟨g75,0,none⟩) ((aG a).length+2) (c76))),(9,(.slice (A103) ((aG o_91).length) (c104))),(10,(.slice (some ⟨g106,0,none⟩) (((aG a).length+2)-((aG b).length)) (((aG a).length+2)-((aG b).length)))),(11,(.int .i64 (((j:Nat):Int)-1))),(70,(.bool (decide ((((j:Nat):Int)-1)>=0)))),(12,(.int .u64 ((((U.getD (j-1+(aG b).length) 0:Nat):Int)*1000000000)+((U.getD (j-1+(aG b).length-1) 0:Nat):Int)))),(13,(.int .u64 (((g:Nat):Int)-1))),(14,(.int .u64 (((r:Nat):Int)+(((aG o_91).getD ((aG b).length-1) 0:Nat):Int)))),(129,(.bool (true)))]:=(hF.all ⟨rfl,rfl,rfl,rfl,rfl,rfl,rfl,rfl,rfl,rfl,rfl,rfl,rfl,rfl,rfl,rfl,rfl,trivial⟩)
    refine aV ?_;refine bI ?_;refine bK ?_;refine pr hF (pm rfl <| pg (λ_ hF=>uo (hF.ev rfl) (hF.ev rfl)) <| PR.nil) ?_;clear hF fa;intro fa hF;refine aV ?_;refine iY hF rfl (λhc124=>?_) (λhc124=>?_)
    ·
     have hc124p:(((r:Nat):Int)+(((aG o_91).getD ((aG b).length-1) 0:Nat):Int))>=1000000000:=by first|simpa using hc124|exact eP hc124|exact eG hc124
     have hgr1:=QJ hgp hgr;have hout:=YA (w2:=U.getD (j-1+(aG b).length-2) 0) hgr1 htl ω (hvL ((aG b).length-2)) rfl;refine sF ?_;refine afg rfl ?_;refine rZ ?_;refine EX ?_;refine dW ?_;exact⟨(g-1),(hF.all ⟨rfl,rfl,rfl,rfl,rfl,rfl,rfl,rfl,rfl,rfl,rfl,rfl,rfl,rfl,(dH rfl ω),trivial⟩),hS,(E118.trans E_w120),(hout.1),(Oi hn2 hvn hvb hvtop hgr1 hout.1 hout.2),(by rw[Nat.sub_add_cancel hgp];exact hw1)⟩
    have hc124p:¬((((r:Nat):Int)+(((aG o_91).getD ((aG b).length-1) 0:Nat):Int))>=1000000000):=by first|simpa using hc124|exact eP hc124|exact eG hc124
    refine jo ?_;refine uq ?_;refine dW ?_;exact⟨_,ω,(g-1),r+((aG o_91).getD ((aG b).length-1) 0),(hF.all ⟨rfl,rfl,rfl,rfl,rfl,rfl,rfl,rfl,rfl,rfl,rfl,rfl,rfl,rfl,(dH rfl ω),(dH rfl ω),trivial⟩),hS,(E118.trans E_w120),(QJ hgp hgr),ω,ω,(by rw[Nat.sub_add_cancel hgp];exact hw1),rfl⟩
   have hk119p:=hk119;simp at hk119p;have hgB:g<1000000000:=by have:=of_decide_eq_false hk119;omega
   obtain⟨ad_113,hA_113,hq_113⟩:=(hu105.ext ((((E108.trans E111).trans E_w113).trans E_w114).trans E118)).cl.at2 (mW (l:=(aG o_91)) (i:=(aG b).length-2) ω)
   refine II (N:=179) (L0:=[(0,(.slice (A4) ((aG a).length) (c5))),(1,(.slice (A10) ((aG b).length) (c11))),(4,(.slice (none) (0) (0))),(5,(.slice (none) (0) (0))),(23,(.bool (decide ((((aG b).length:Nat):Int)=1)))),(34,(.bool (decide ((iy (val ((aG a))) (val ((aG b))))<0)))),(6,(.int .i64 ((((aG b).length:Nat):Int)))),(7,(.int .u32 (((sc:Nat):Int)))),(8,(.slice (some ⟨g75,0,none⟩) ((aG a).length+2) (c76))),(9,(.slice (A103) ((aG o_91).length) (c104))),(10,(.slice (some ⟨g106,0,none⟩) (((aG a).length+2)-((aG b).length)) (((aG a).length+2)-((aG b).length)))),(11,(.int .i64 (((j:Nat):Int)-1))),(70,(.bool (decide ((((j:Nat):Int)-1)>=0)))),(12,(.int .u64 ((((U.getD (j-1+(aG b).length) 0:Nat):Int)*1000000000)+((U.getD (j-1+(aG b).length-1) 0:Nat):Int)))),(13,(.int .u64 (((g:Nat):Int)))),(14,(.int .u64 (((r:Nat):Int))))]) [some (.int .u64 (((g:Nat):Int))),some (.bool (false)),some (.bool (false)),some (.int .u64 (((g:Nat):Int))),some (.slice (A103) ((aG o_91).length) (c104)),some (.int .i64 ((((aG b).length:Nat):Int))),some (.int .i64 ((((aG b).length:Nat):Int)-2)),some (.pointer (some (ad_113.add ((aG b).length-2)))),some (.int .u32 ((((aG o_91).getD ((aG b).length-2) 0:Nat):Int))),some (.int .u64 ((((aG o_91).getD ((aG b).length-2) 0:Nat):Int))),some (.int .u64 (((g:Nat):Int)*(((aG o_91).getD ((aG b).length-2) 0:Nat):Int))),some (.int .u64 (((r:Nat):Int))),some (.int .u64 (((r:Nat):Int)*1000000000)),some (.slice (some ⟨g75,0,none⟩) ((aG a).length+2) (c76)),some (.int .i64 (((j:Nat):Int)-1)),some (.int .i64 ((((aG b).length:Nat):Int))),some (.int .i64 ((((j:Nat):Int)-1)+(((aG b).length:Nat):Int))),some (.int .i64 (((((j:Nat):Int)-1)+(((aG b).length:Nat):Int))-2)),some (.pointer (some ⟨g75,j-1+(aG b).length-2,none⟩)),some (.int .u32 (((U.getD (j-1+(aG b).length-2) 0:Nat):Int))),some (.int .u64 (((U.getD (j-1+(aG b).length-2) 0:Nat):Int))),some (.int .u64 ((((r:Nat):Int)*1000000000)+((U.getD (j-1+(aG b).length-2) 0:Nat):Int))),some (.bool (decide ((((g:Nat):Int)*(((aG o_91).getD ((aG b).length-2) 0:Nat):Int))>((((r:Nat):Int)*1000000000)+((U.getD (j-1+(aG b).length-2) 0:Nat):Int))))),some (.bool (decide ((((g:Nat):Int)*(((aG o_91).getD ((aG b).length-2) 0:Nat):Int))>((((r:Nat):Int)*1000000000)+((U.getD (j-1+(aG b).length-2) 0:Nat):Int)))))] [] [[]] [[0],[0],[0],[0],[0],[0],[0],[0],[0],[0],[0],[0],[0],[0],[0],[0],[0],[0],[0],[0],[0],[0],[0],[0]] 0 [
    λfa w'=>Frm 179 fa []/\St w w' [(g106,209,(us (Q)).toArray),(g75,209,(us (U)++R77).toArray)]/\Ext w117 (g106 ::(g75::X)) w' (g106 ::(g75::X))
    ] TfR.mixed rfl rfl rfl rfl rfl rfl (hF.all ⟨rfl,rfl,rfl,rfl,rfl,rfl,rfl,rfl,rfl,rfl,rfl,rfl,rfl,rfl,rfl,rfl,trivial⟩) rfl ⟨hF.nil,hS.drew,Ext.drew _ _⟩ ?_ ?_ ?_
   all_goals clear hF fa
   ·
    refine⟨?_,trivial⟩
    ·
     rintro fa w' i o d v ho hd hna ⟨hA,hR⟩;exact⟨hA.put_other v (vk (acts:=[]) rfl ho hd hna),hR⟩
   ·
    refine⟨?_, ?_, ?_, ?_, ?_, ?_, ?_, ?_, ?_, ?_, ?_, ?_, ?_, ?_, ?_, ?_, ?_, ?_, ?_, ?_, ?_, ?_, ?_, ?_,trivial⟩
    ·
     refine .inl ⟨rfl,_,_,rfl,rfl,λs fa w' hΦ hF hB K hK=>?_⟩;exact dG rfl rfl rfl (bT (hF.ev rfl)) hK
    ·
     refine .inl ⟨rfl,_,_,rfl,rfl,λs fa w' hΦ hF hB K hK=>?_⟩;replace hF:=hF.cons (hB.val 0 _ 106 _ rfl rfl rfl rfl);exact dG rfl rfl rfl (agp hk119 (uo (hF.ev rfl) (hF.ev rfl))) hK
    ·
     refine .inl ⟨rfl,_,_,rfl,rfl,λs fa w' hΦ hF hB K hK=>?_⟩;replace hF:=hF.cons (hB.val 1 _ 107 _ rfl rfl rfl rfl);exact dG rfl rfl rfl (bT (hF.ev rfl)) hK
    ·
     refine .inl ⟨rfl,_,_,rfl,rfl,λs fa w' hΦ hF hB K hK=>?_⟩;replace hF:=hF.cons (hB.val 2 _ 108 _ rfl rfl rfl rfl);exact gZ hF rfl rfl rfl rfl (bT (hF.ev rfl)) hK
    ·
     refine .inl ⟨rfl,_,_,rfl,rfl,λs fa w' hΦ hF hB K hK=>?_⟩;replace hF:=hF.cons (hB.val 2 _ 108 _ rfl rfl rfl rfl);exact gZ hF rfl rfl rfl rfl (bT (hF.ev rfl)) hK
    ·
     refine .inl ⟨rfl,_,_,rfl,rfl,λs fa w' hΦ hF hB K hK=>?_⟩;replace hF:=hF.cons (hB.val 2 _ 108 _ rfl rfl rfl rfl);exact gZ hF rfl rfl rfl rfl (bT (hF.ev rfl)) hK
    ·
     refine .inl ⟨rfl,_,_,rfl,rfl,λs fa w' hΦ hF hB K hK=>?_⟩;replace hF:=hF.cons (hB.val 5 _ 111 _ rfl rfl rfl rfl);replace hF:=hF.cons (hB.val 2 _ 108 _ rfl rfl rfl rfl);exact gZ hF rfl rfl rfl rfl (iI (hF.ev rfl) (hF.ev rfl) jY) hK
    ·
     refine .inl ⟨rfl,_,_,rfl,rfl,λs fa w' hΦ hF hB K hK=>?_⟩;replace hF:=hF.cons (hB.val 4 _ 110 _ rfl rfl rfl rfl);replace hF:=hF.cons (hB.val 6 _ 112 _ rfl rfl rfl rfl);replace hF:=hF.cons (hB.val 2 _ 108 _ rfl rfl rfl rfl);exact gZ hF rfl rfl rfl rfl (mZ (j:=(aG b).length-2) TfR.sl27 (hF.ev rfl) hA_113 (hF.ev rfl) ω ω) hK
    ·
     refine .inr (.inl ⟨rfl,_,_,rfl,rfl, ?_,trivial⟩)
     ·
      intro fa w' hΦ hF hB K hK;obtain⟨hA,hS,E_w'⟩:=hΦ;replace hF:=hF.cons (hB.val 7 _ 113 _ rfl rfl rfl rfl);replace hF:=hF.cons (hB.val 2 _ 108 _ rfl rfl rfl rfl);exact gZ hF rfl rfl rfl rfl (iP TfR.one209 (hF.ev rfl) (hq_113 E_w')) hK
    ·
     refine .inl ⟨rfl,_,_,rfl,rfl,λs fa w' hΦ hF hB K hK=>?_⟩;replace hF:=hF.cons (hB.val 8 _ 114 _ rfl rfl rfl rfl);replace hF:=hF.cons (hB.val 2 _ 108 _ rfl rfl rfl rfl);exact gZ hF rfl rfl rfl rfl (fH TfR.unds209 TfR.und194 (hF.ev rfl) (mF ω)) hK
    ·
     refine .inl ⟨rfl,_,_,rfl,rfl,λs fa w' hΦ hF hB K hK=>?_⟩;replace hF:=hF.cons (hB.val 3 _ 109 _ rfl rfl rfl rfl);replace hF:=hF.cons (hB.val 9 _ 115 _ rfl rfl rfl rfl);replace hF:=hF.cons (hB.val 2 _ 108 _ rfl rfl rfl rfl);exact gZ hF rfl rfl rfl rfl (zT (hF.ev rfl) (hF.ev rfl) oJ) hK
    ·
     refine .inl ⟨rfl,_,_,rfl,rfl,λs fa w' hΦ hF hB K hK=>?_⟩;replace hF:=hF.cons (hB.val 2 _ 108 _ rfl rfl rfl rfl);exact gZ hF rfl rfl rfl rfl (bT (hF.ev rfl)) hK
    ·
     refine .inl ⟨rfl,_,_,rfl,rfl,λs fa w' hΦ hF hB K hK=>?_⟩;replace hF:=hF.cons (hB.val 11 _ 117 _ rfl rfl rfl rfl);replace hF:=hF.cons (hB.val 2 _ 108 _ rfl rfl rfl rfl);exact gZ hF rfl rfl rfl rfl (zT (hF.ev rfl) (hF.ev rfl) oJ) hK
    ·
     refine .inl ⟨rfl,_,_,rfl,rfl,λs fa w' hΦ hF hB K hK=>?_⟩;replace hF:=hF.cons (hB.val 2 _ 108 _ rfl rfl rfl rfl);exact gZ hF rfl rfl rfl rfl (bT (hF.ev rfl)) hK
    ·
     refine .inl ⟨rfl,_,_,rfl,rfl,λs fa w' hΦ hF hB K hK=>?_⟩;replace hF:=hF.cons (hB.val 2 _ 108 _ rfl rfl rfl rfl);exact gZ hF rfl rfl rfl rfl (bT (hF.ev rfl)) hK
    ·
     refine .inl ⟨rfl,_,_,rfl,rfl,λs fa w' hΦ hF hB K hK=>?_⟩;replace hF:=hF.cons (hB.val 2 _ 108 _ rfl rfl rfl rfl);exact gZ hF rfl rfl rfl rfl (bT (hF.ev rfl)) hK
    ·
     refine .inl ⟨rfl,_,_,rfl,rfl,λs fa w' hΦ hF hB K hK=>?_⟩;replace hF:=hF.cons (hB.val 14 _ 120 _ rfl rfl rfl rfl);replace hF:=hF.cons (hB.val 15 _ 121 _ rfl rfl rfl rfl);replace hF:=hF.cons (hB.val 2 _ 108 _ rfl rfl rfl rfl);exact gZ hF rfl rfl rfl rfl (dX (hF.ev rfl) (hF.ev rfl) jY) hK
    ·
     refine .inl ⟨rfl,_,_,rfl,rfl,λs fa w' hΦ hF hB K hK=>?_⟩;replace hF:=hF.cons (hB.val 16 _ 122 _ rfl rfl rfl rfl);replace hF:=hF.cons (hB.val 2 _ 108 _ rfl rfl rfl rfl);exact gZ hF rfl rfl rfl rfl (iI (hF.ev rfl) (hF.ev rfl) jY) hK
    ·
     refine .inl ⟨rfl,_,_,rfl,rfl,λs fa w' hΦ hF hB K hK=>?_⟩;replace hF:=hF.cons (hB.val 13 _ 119 _ rfl rfl rfl rfl);replace hF:=hF.cons (hB.val 17 _ 123 _ rfl rfl rfl rfl);replace hF:=hF.cons (hB.val 2 _ 108 _ rfl rfl rfl rfl);exact gZ hF rfl rfl rfl rfl (qo (j:=j-1+(aG b).length-2) TfR.sl27 (hF.ev rfl) (hF.ev rfl) ω ω) hK
    ·
     refine .inr (.inl ⟨rfl,_,_,rfl,rfl, ?_,trivial⟩)
     ·
      intro fa w' hΦ hF hB K hK;obtain⟨hA,hS,E_w'⟩:=hΦ;replace hF:=hF.cons (hB.val 18 _ 124 _ rfl rfl rfl rfl);replace hF:=hF.cons (hB.val 2 _ 108 _ rfl rfl rfl rfl);exact gZ hF rfl rfl rfl rfl (jZ TfR.one209 (hF.ev rfl) (hS.get 1 rfl) (uS (by first|omega|(simp;omega)))) hK
    ·
     refine .inl ⟨rfl,_,_,rfl,rfl,λs fa w' hΦ hF hB K hK=>?_⟩;replace hF:=hF.cons (hB.val 19 _ 125 _ rfl rfl rfl rfl);replace hF:=hF.cons (hB.val 2 _ 108 _ rfl rfl rfl rfl);exact gZ hF rfl rfl rfl rfl (fH TfR.unds209 TfR.und194 (hF.ev rfl) (mF ω)) hK
    ·
     refine .inl ⟨rfl,_,_,rfl,rfl,λs fa w' hΦ hF hB K hK=>?_⟩;replace hF:=hF.cons (hB.val 12 _ 118 _ rfl rfl rfl rfl);replace hF:=hF.cons (hB.val 20 _ 126 _ rfl rfl rfl rfl);replace hF:=hF.cons (hB.val 2 _ 108 _ rfl rfl rfl rfl);exact gZ hF rfl rfl rfl rfl (dX (hF.ev rfl) (hF.ev rfl) oJ) hK
    ·
     refine .inl ⟨rfl,_,_,rfl,rfl,λs fa w' hΦ hF hB K hK=>?_⟩;replace hF:=hF.cons (hB.val 10 _ 116 _ rfl rfl rfl rfl);replace hF:=hF.cons (hB.val 21 _ 127 _ rfl rfl rfl rfl);replace hF:=hF.cons (hB.val 2 _ 108 _ rfl rfl rfl rfl);exact gZ hF rfl rfl rfl rfl (I4 (hF.ev rfl) (hF.ev rfl)) hK
    ·
     refine .inl ⟨rfl,_,_,rfl,rfl,λs fa w' hΦ hF hB K hK=>?_⟩;replace hF:=hF.cons (hB.val 2 _ 108 _ rfl rfl rfl rfl);replace hF:=hF.cons (hB.val 22 _ 128 _ rfl rfl rfl rfl);exact dG rfl rfl rfl (vS (hF.ev rfl) (u:=undef) (λh=>by cases h) (λ_=>hF.ev rfl) rfl) hK
   intro fa w125 hΦ hF hC;obtain⟨hA,hS,E_w125⟩:=hΦ;replace hF:=hF.cons (hC 23 _ 129 _ rfl rfl rfl);clear hA hC;refine dW ?_;refine iY hF rfl (λhc126=>?_) (λhc126=>?_)
   ·
    have hc126p:(((g:Nat):Int)*(((aG o_91).getD ((aG b).length-2) 0:Nat):Int))>((((r:Nat):Int)*1000000000)+((U.getD (j-1+(aG b).length-2) 0:Nat):Int)):=by first|simpa using hc126|exact eP hc126|exact eG hc126
    have hgv:g*(aG o_91).getD ((aG b).length-2) 0>r*1000000000+U.getD (j-1+(aG b).length-2) 0:=abZ hc126p;have hgp:=aht hgv;have hw1:=acs hn2 hvn hbU hgr hgv;refine jo ?_;refine dW ?_;refine iK ?_;refine bI ?_;refine bK ?_;refine pr hF (pm rfl <| pg (λ_ hF=>iI (hF.ev rfl) (hF.ev rfl) oJ) <| pa rfl <| PR.nil) ?_;clear hF fa;intro fa hF;refine aV ?_;refine bI ?_;refine bK ?_;refine pr hF (pm rfl <| pm rfl <| pm rfl <| pg (λ_ hF=>iI (hF.ev rfl) (hF.ev rfl) jY) <| PR.nil) ?_;clear hF fa;intro fa hF;obtain⟨ad127,hA128,hq129⟩:=(hu105.ext (((((E108.trans E111).trans E_w113).trans E_w114).trans E118).trans E_w125)).cl.at_ (mW (l:=(aG o_91)) (i:=(aG b).length-1) ω);refine pr hF (pg (λ_ hF=>mZ (j:=(aG b).length-1) TfR.sl27 (hF.ev rfl) hA128 (hF.ev rfl) ω ω) <| pg (λ_ hF=>iP TfR.one209 (hF.ev rfl) hq129) <| pg (λ_ hF=>fH TfR.unds209 TfR.und194 (hF.ev rfl) (mF ω)) <| pg (λ_ hF=>dX (hF.ev rfl) (hF.ev rfl) oJ) <| pa rfl <| PR.nil) ?_;clear hF fa;intro fa hF;replace hF:Frm 179 fa [(0,(.slice (A4) ((aG a).length) (c5))),(1,(.slice (A10) ((aG b).length) (c11))),(4,(.slice (none) (0) (0))),(5,(.slice (none) (0) (0))),(23,(.bool (decide ((((aG b).length:Nat):Int)=1)))),(34,(.bool (decide ((iy (val ((aG a))) (val ((aG b))))<0)))),(6,(.int .i64 ((((aG b).length:Nat):Int)))),(7,(.int .u32 (((sc:Nat):Int)))),(8,(.slice (some ⟨g75,0,none⟩) ((aG a).length+2) (c76))),(9,(.slice (A103) ((aG o_91).length) (c104))),(10,(.slice (some ⟨g106,0,none⟩) (((aG a).length+2)-((aG b).length)) (((aG a).length+2)-((aG b).length)))),(11,(.int .i64 (((j:Nat):Int)-1))),(70,(.bool (decide ((((j:Nat):Int)-1)>=0)))),(12,(.int .u64 ((((U.getD (j-1+(aG b).length) 0:Nat):Int)*1000000000)+((U.getD (j-1+(aG b).length-1) 0:Nat):Int)))),(13,(.int .u64 (((g:Nat):Int)-1))),(14,(.int .u64 (((r:Nat):Int)+(((aG o_91).getD ((aG b).length-1) 0:Nat):Int)))),(129,(.bool (decide ((((g:Nat):Int)*(((aG o_91).getD ((aG b).length-2) 0:Nat):Int))>((((r:Nat):Int)*1000000000)+((U.getD (j-1+(aG b).length-2) 0:Nat):Int))))))]:=(hF.all ⟨rfl,rfl,rfl,rfl,rfl,rfl,rfl,rfl,rfl,rfl,rfl,rfl,rfl,rfl,rfl,rfl,rfl,trivial⟩)
    refine aV ?_;refine bI ?_;refine bK ?_;refine pr hF (pm rfl <| pg (λ_ hF=>uo (hF.ev rfl) (hF.ev rfl)) <| PR.nil) ?_;clear hF fa;intro fa hF;refine aV ?_;refine iY hF rfl (λhc130=>?_) (λhc130=>?_)
    ·
     have hc130p:(((r:Nat):Int)+(((aG o_91).getD ((aG b).length-1) 0:Nat):Int))>=1000000000:=by first|simpa using hc130|exact eP hc130|exact eG hc130
     have hgr1:=QJ hgp hgr;have hout:=YA (w2:=U.getD (j-1+(aG b).length-2) 0) hgr1 htl ω (hvL ((aG b).length-2)) rfl;refine sF ?_;refine afg rfl ?_;refine rZ ?_;refine EX ?_;refine dW ?_;exact⟨(g-1),(hF.all ⟨rfl,rfl,rfl,rfl,rfl,rfl,rfl,rfl,rfl,rfl,rfl,rfl,rfl,rfl,(dH rfl ω),trivial⟩),hS,(E118.trans E_w125),(hout.1),(Oi hn2 hvn hvb hvtop hgr1 hout.1 hout.2),(by rw[Nat.sub_add_cancel hgp];exact hw1)⟩
    have hc130p:¬((((r:Nat):Int)+(((aG o_91).getD ((aG b).length-1) 0:Nat):Int))>=1000000000):=by first|simpa using hc130|exact eP hc130|exact eG hc130
    refine jo ?_;refine uq ?_;refine dW ?_;exact⟨_,ω,(g-1),r+((aG o_91).getD ((aG b).length-1) 0),(hF.all ⟨rfl,rfl,rfl,rfl,rfl,rfl,rfl,rfl,rfl,rfl,rfl,rfl,rfl,rfl,(dH rfl ω),(dH rfl ω),trivial⟩),hS,(E118.trans E_w125),(QJ hgp hgr),ω,ω,(by rw[Nat.sub_add_cancel hgp];exact hw1),rfl⟩
   have hc126p:¬((((g:Nat):Int)*(((aG o_91).getD ((aG b).length-2) 0:Nat):Int))>((((r:Nat):Int)*1000000000)+((U.getD (j-1+(aG b).length-2) 0:Nat):Int))):=by first|simpa using hc126|exact eP hc126|exact eG hc126
   refine sF ?_;refine rZ ?_;refine rZ ?_;refine EX ?_;refine dW ?_;exact⟨(g),(hF.all ⟨rfl,rfl,rfl,rfl,rfl,rfl,rfl,rfl,rfl,rfl,rfl,rfl,rfl,rfl,(dH rfl ω),trivial⟩),hS,(E118.trans E_w125),(hgB),(Oi hn2 hvn hvb hvtop hgr hgB ω),(hgw)⟩
  clear hF fa hS;rintro fa w115 ⟨gs,hF,hS,E116,hgsB,hslo,hshi⟩;refine bI ?_;refine bI ?_;refine bK ?_;refine pr hF (pm rfl <| pm rfl <| pm rfl <| pm rfl <| pg (λ_ hF=>dX (hF.ev rfl) (hF.ev rfl) jY) <| pg (λ_ hF=>dX (hF.ev rfl) (hF.ev rfl) jY) <| pg (λ_ hF=>yE (j:=j-1) (m:=j-1+(aG b).length+1) (q:=(aG b).length+1) TfR.sl27 (hF.ev rfl) (hF.ev rfl) (hF.ev rfl) ω ω ω ω ω ω) <| pm rfl <| pm rfl <| PR.nil) ?_;clear hF fa;intro fa hF;replace hS:St w w115 [(g75,209,(us (U)++R77).toArray),(g106,209,(us (Q)).toArray)]:=hS.perm (List.Perm.swap _ _ _);have E131:Ext w115 (g106 ::(g75::X)) w115 (g75 ::(g106::X)):=Ext.drop (by simp +contextual);have hC:=wB (w:=w115) (X:=X) (So:=[(g106,209,(us (Q)).toArray)]) (v:=(aG o_91)) (U:=U) (c_U:=c76-(j-1)) hX hS (j-1) ((aG b).length+1) ⟨_,((aG o_91).length),_,rfl,(rfl),(hu105.ext (((((E108.trans E111).trans E_w113).trans E_w114).trans E116).trans E131))⟩ (gs) ω ω ω (hbU) (hvb) (hgsB);refine st rfl (lS hF rfl TfR.body316 (agc (hF.ev rfl) (hF.ev rfl) (hF.ev (jH (b:=((gs:Nat):Int)) rfl (by first|rfl|omega)))) hC ?_);clear hC hS;rintro _ w135 ⟨o_137,cy_138,rfl,hp139,hp140,hp141,hp142,hp143,hS,E136⟩;refine qh ?_;clear hF fa;intro fa hF;replace E136:Ext w115 (g75 ::(g106::X)) w135 (g75 ::(g106::X)):=E136;have hs_len:=hp139;have hs_lb:=hp140;have hs_tk:=hp141;have hs_dr:=hp142;have hs_v:=hp143;replace hF:Frm 179 fa [(0,(.slice (A4) ((aG a).length) (c5))),(1,(.slice (A10) ((aG b).length) (c11))),(4,(.slice (none) (0) (0))),(5,(.slice (none) (0) (0))),(23,(.bool (decide ((((aG b).length:Nat):Int)=1)))),(34,(.bool (decide ((iy (val ((aG a))) (val ((aG b))))<0)))),(6,(.int .i64 ((((aG b).length:Nat):Int)))),(7,(.int .u32 (((sc:Nat):Int)))),(8,(.slice (some ⟨g75,0,none⟩) ((aG a).length+2) (c76))),(9,(.slice (A103) ((aG o_91).length) (c104))),(10,(.slice (some ⟨g106,0,none⟩) (((aG a).length+2)-((aG b).length)) (((aG a).length+2)-((aG b).length)))),(11,(.int .i64 (((j:Nat):Int)-1))),(70,(.bool (decide ((((j:Nat):Int)-1)>=0)))),(12,(.int .u64 ((((U.getD (j-1+(aG b).length) 0:Nat):Int)*1000000000)+((U.getD (j-1+(aG b).length-1) 0:Nat):Int)))),(13,(.int .u64 (((gs:Nat):Int)))),(151,(.bool (decide (0<cy_138))))]:=(hF.all ⟨rfl,rfl,rfl,rfl,rfl,rfl,rfl,rfl,rfl,rfl,rfl,rfl,rfl,rfl,rfl,rfl,trivial⟩)
  refine aV ?_;refine iY hF rfl (λhc144=>?_) (λhc144=>?_)
  ·
   have hc144p:0<cy_138:=by first|simpa using hc144|exact eP hc144|exact eG hc144
   have hgs0:0<gs:=aaE hs_v hc144p (zQ hs_lb _ _);have hcyp:=hc144p;refine bI ?_;refine bK ?_;refine pr hF (pm rfl <| pg (λ_ hF=>iI (hF.ev rfl) (hF.ev rfl) oJ) <| pa rfl <| PR.nil) ?_;clear hF fa;intro fa hF;refine aV ?_;refine bK ?_;refine pr hF (pm rfl <| pm rfl <| pm rfl <| pm rfl <| pg (λ_ hF=>dX (hF.ev rfl) (hF.ev rfl) jY) <| pg (λ_ hF=>dX (hF.ev rfl) (hF.ev rfl) jY) <| pg (λ_ hF=>yE (j:=j-1) (m:=j-1+(aG b).length+1) (q:=(aG b).length+1) TfR.sl27 (hF.ev rfl) (hF.ev rfl) (hF.ev rfl) ω ω ω ω ω ω) <| pm rfl <| PR.nil) ?_;clear hF fa;intro fa hF;have hC:=xE (w:=w135) (X:=X) (So:=[(g106,209,(us (Q)).toArray)]) (v:=(aG o_91)) (U:=o_137) (c_U:=c76-(j-1)) hX hS (j-1) ((aG b).length+1) ⟨_,((aG o_91).length),_,rfl,(rfl),(hu105.ext ((((((E108.trans E111).trans E_w113).trans E_w114).trans E116).trans E131).trans E136))⟩ ω ω ω (hs_lb) (hvb);refine st rfl (lS hF rfl TfR.body317 (args2 (hF.ev rfl) (hF.ev rfl)) hC ?_);clear hC hS;rintro _ w148 ⟨o_150,cy_151,rfl,hp152,hp153,hp154,hp155,hp156,hp157,hS,E149⟩;refine qh ?_;clear hF fa;intro fa hF;replace E149:Ext w135 (g75 ::(g106::X)) w148 (g75 ::(g106::X)):=E149;have hr_len:=hp152;have hr_lb:=hp153;have hr_tk:=hp154;have hr_dr:=hp155;have hr_v:=hp156;have hr_c:=hp157;have hdb:=Ze hs_v hcyp (zQ hs_lb _ _) hslo hVM hr_v (zQ hr_lb _ _) hr_c;refine aV ?_;refine bK ?_;refine pr hF (pm rfl <| pm rfl <| pm rfl <| pg (λ_ hF=>fH TfR.unds194 TfR.und209 (hF.ev rfl) Hl) <| pg (λ_ hF=>qo (j:=j-1) TfR.sl27 (hF.ev rfl) (hF.ev rfl) ω ω) <| PR.nil) ?_;clear hF fa;intro fa hF;refine st rfl (iT (vs:=#[.int .u32 ((gs-1:Nat):Int)]) (v:=.int .u32 ((gs-1:Nat):Int)) (X:=(g75 ::(g106::X))) hF hS 1 rfl η rfl (jH rfl ω) rfl TfR.size209 rfl (H7 (by first|omega|(simp;omega))) ?_);intro w158 hS E159;rw[vK (by first|omega|(simp;omega))]at hS;replace hF:Frm 179 fa [(0,(.slice (A4) ((aG a).length) (c5))),(1,(.slice (A10) ((aG b).length) (c11))),(4,(.slice (none) (0) (0))),(5,(.slice (none) (0) (0))),(23,(.bool (decide ((((aG b).length:Nat):Int)=1)))),(34,(.bool (decide ((iy (val ((aG a))) (val ((aG b))))<0)))),(6,(.int .i64 ((((aG b).length:Nat):Int)))),(7,(.int .u32 (((sc:Nat):Int)))),(8,(.slice (some ⟨g75,0,none⟩) ((aG a).length+2) (c76))),(9,(.slice (A103) ((aG o_91).length) (c104))),(10,(.slice (some ⟨g106,0,none⟩) (((aG a).length+2)-((aG b).length)) (((aG a).length+2)-((aG b).length)))),(11,(.int .i64 (((j:Nat):Int)-1))),(70,(.bool (decide ((((j:Nat):Int)-1)>=0)))),(12,(.int .u64 ((((U.getD (j-1+(aG b).length) 0:Nat):Int)*1000000000)+((U.getD (j-1+(aG b).length-1) 0:Nat):Int)))),(13,(.int .u64 (((gs:Nat):Int)-1))),(151,(.bool (decide (0<cy_138))))]:=(hF.all ⟨rfl,rfl,rfl,rfl,rfl,rfl,rfl,rfl,rfl,rfl,rfl,rfl,rfl,rfl,rfl,rfl,trivial⟩)
   refine jM ?_;refine uq ?_;refine dW ?_;refine bK ?_;refine pr hF (pm rfl <| pg (λ_ hF=>iI (hF.ev rfl) (hF.ev rfl) jY) <| pa rfl <| PR.nil) ?_;clear hF fa;intro fa hF;refine jM ?_;refine dW ?_;replace hS:St w w158 [(g106,209,(us (Q.set (j-1) (gs-1))).toArray),(g75,209,(us (o_150)++R77).toArray)]:=hS.perm (List.Perm.swap _ _ _);have E160:Ext w158 (g75 ::(g106::X)) w158 (g106 ::(g75::X)):=Ext.drop (by simp +contextual);exact⟨_,ω,o_150,Q.set (j-1) (gs-1),(j-1),(hF.all ⟨rfl,rfl,rfl,rfl,rfl,rfl,rfl,rfl,rfl,rfl,rfl,(dH rfl ω),trivial⟩),hS,((((((((E111.trans E_w113).trans E_w114).trans E116).trans E131).trans E136).trans E149).trans E159).trans E160),ω,(hr_len.trans (hs_len.trans hUl)),(hr_lb),κ,(gG hbQ ω),(DivInv.step (k:=j-1) (n:=(aG b).length) hI ω ω (hr_len.trans hs_len) ω (hr_tk.trans hs_tk) (hr_dr.trans hs_dr) hdw.rest rfl rfl hdb.2),rfl⟩
  have hc144p:¬(0<cy_138):=by first|simpa using hc144|exact eP hc144|exact eG hc144
  refine jo ?_;refine dW ?_;refine bK ?_;refine pr hF (pm rfl <| pm rfl <| pm rfl <| pg (λ_ hF=>fH TfR.unds194 TfR.und209 (hF.ev rfl) (DK ω)) <| pg (λ_ hF=>qo (j:=j-1) TfR.sl27 (hF.ev rfl) (hF.ev rfl) ω ω) <| PR.nil) ?_;clear hF fa;intro fa hF;refine st rfl (iT (vs:=#[.int .u32 ((gs:Nat):Int)]) (v:=.int .u32 ((gs:Nat):Int)) (X:=(g75 ::(g106::X))) hF hS 1 rfl η rfl (jH rfl ω) rfl TfR.size209 rfl (H7 (by first|omega|(simp;omega))) ?_);intro w161 hS E162;rw[vK (by first|omega|(simp;omega))]at hS;refine jM ?_;refine uq ?_;refine dW ?_;refine bK ?_;refine pr hF (pm rfl <| pg (λ_ hF=>iI (hF.ev rfl) (hF.ev rfl) jY) <| pa rfl <| PR.nil) ?_;clear hF fa;intro fa hF;refine jM ?_;refine dW ?_;replace hS:St w w161 [(g106,209,(us (Q.set (j-1) (gs))).toArray),(g75,209,(us (o_137)++R77).toArray)]:=hS.perm (List.Perm.swap _ _ _);have E163:Ext w161 (g75 ::(g106::X)) w161 (g106 ::(g75::X)):=Ext.drop (by simp +contextual);exact⟨_,ω,o_137,Q.set (j-1) (gs),(j-1),(hF.all ⟨rfl,rfl,rfl,rfl,rfl,rfl,rfl,rfl,rfl,rfl,rfl,(dH rfl ω),trivial⟩),hS,(((((((E111.trans E_w113).trans E_w114).trans E116).trans E131).trans E136).trans E162).trans E163),ω,(hs_len.trans hUl),(hs_lb),κ,(gG hbQ ω),(DivInv.step (k:=j-1) (n:=(aG b).length) hI ω ω hs_len ω hs_tk hs_dr hdw.rest rfl rfl (VU hs_v ω hshi)),rfl⟩
 have hc112p:¬((((j:Nat):Int)-1)>=0):=by first|simpa using hc112|exact eP hc112|exact eG hc112
 refine sF ?_;refine rZ ?_;refine rZ ?_;refine EX ?_;refine dW ?_;refine bI ?_;refine bK ?_;refine pr hF (pm rfl <| pm rfl <| pg (λ_ hF=>oZ (j:=(aG b).length) TfR.sl27 (hF.ev rfl) (hF.ev rfl) ω ω) <| PR.nil) ?_;clear hF fa;intro fa hF;obtain⟨hS1,hn1⟩:=hS.out hX 1 rfl;have hu164:=UC.of_boxR (R:=R77) (c:=c76) (n:=(aG b).length) (L:=U) (hS.get 1 rfl) hn1 (by unfold maxLen;omega) (by first|omega|(simp;omega)) (by first|omega|(simp;omega));have E165:Ext w110 (g106 ::(g75::X)) w110 (g106::X):=Ext.drop (by simp +contextual);replace hu164:UC w110 (g106::X) (some ⟨g75,0,none⟩) (c76) (U.take ((aG b).length)):=hu164;replace hS:St w w110 [(g106,209,(us (Q)).toArray)]:=hS1;clear hn1;have hC:=kU (w:=w110) (X:=(g106::X)) (l:=(U.take ((aG b).length))) (hS.bnd hX) ⟨_,((aG b).length),_,rfl,(by rw[xB];omega),hu164⟩;refine st rfl (lS hF rfl TfR.body314 (args1 (hF.ev rfl)) hC ?_);clear hC;rintro _ w166 ⟨⟨A169,_,c170,rfl,rfl,hu171⟩,hb167⟩;refine qh ?_;clear hF fa;intro fa hF;replace hS:=hS.call hb167;have E168:=Ext.call (g106::X) hb167;refine pr hF (pm rfl <| PR.nil) ?_;clear hF fa;intro fa hF;have hC:=qC (w:=w166) (X:=(g106::X)) (a:=(aG (U.take ((aG b).length)))) (hS.bnd hX) ⟨_,((aG (U.take ((aG b).length))).length),_,rfl,(rfl),hu171⟩ (sc) (by have:=iq (U.take (aG b).length);simp at this;omega) (pK (hbU.take _)) (hsc0) (hscB);refine st rfl (lS hF rfl TfR.body315 (args2 (hF.ev rfl) (hF.ev (jH (b:=((sc:Nat):Int)) rfl (by first|rfl|omega)))) hC ?_);clear hC;rintro _ w172 ⟨⟨qs_175,rs_176,_,_,rfl,⟨A177,_,c178,rfl,rfl,hu179⟩,⟨A180,_,c181,rfl,rfl,hu182⟩,hp183,hp184,hp185,hp186,hp187,hp188⟩,hb173⟩;refine qh ?_;clear hF fa;intro fa hF;replace hS:=hS.call hb173;have E174:=Ext.call (g106::X) hb173;have hw_lq:=hp183;have hw_v:=hp185;have hw_l:=hp186;have hw_q:=hp187;rw[gQ]at hw_v;refine pr hF (pm rfl <| px rfl rfl <| px rfl rfl <| pa rfl <| pa rfl <| PR.nil) ?_;clear hF fa;intro fa hF;replace hF:Frm 179 fa [(0,(.slice (A4) ((aG a).length) (c5))),(1,(.slice (A10) ((aG b).length) (c11))),(4,(.slice (none) (0) (0))),(5,(.slice (none) (0) (0))),(23,(.bool (decide ((((aG b).length:Nat):Int)=1)))),(34,(.bool (decide ((iy (val ((aG a))) (val ((aG b))))<0)))),(6,(.int .i64 ((((aG b).length:Nat):Int)))),(7,(.int .u32 (((sc:Nat):Int)))),(8,(.slice (some ⟨g75,0,none⟩) ((aG a).length+2) (c76))),(9,(.slice (A103) ((aG o_91).length) (c104))),(10,(.slice (some ⟨g106,0,none⟩) (((aG a).length+2)-((aG b).length)) (((aG a).length+2)-((aG b).length)))),(11,(.int .i64 (((j:Nat):Int)-1))),(70,(.bool (decide ((((j:Nat):Int)-1)>=0)))),(15,(.slice (A177) (qs_175.length) (c178)))]:=(hF.all ⟨rfl,rfl,rfl,rfl,rfl,rfl,rfl,rfl,rfl,rfl,rfl,rfl,rfl,rfl,trivial⟩)
 refine aV ?_;refine bI ?_;refine bK ?_;refine pr hF (pm rfl <| pm rfl <| pa rfl <| pa rfl <| PR.nil) ?_;clear hF fa;intro fa hF;refine aV ?_;refine tV ?_;have hj0:j=0:=ω
 subst hj0;simp only[DivInv,UW,Nat.pow_zero,Nat.one_mul]at hI;have hvlt:=iG _ hvb;rw[hvn]at hvlt;have htk0:=DU (U:=U) (k:=(aG b).length) ω (Nat.lt_trans hI.2 hvlt);rw[DU ω (Nat.lt_trans hI.2 hvlt)]at hw_v;rw[hV]at hI;have hend:=Rl hsc0 hI.1 hI.2 hw_v hw_l;have htln:=iq (U.take (aG b).length);simp at htln;refine adZ hF rfl (kP hF rfl) (kP hF rfl) ?_;exact⟨_,rfl,⟨Q,qs_175,_,_,rfl,(UL.own (L:=Q) (hS.get 0 rfl) (hS.notX hX 0 rfl) (by first|rfl|(simp;done)|omega) (by first|rfl|(simp;done)|omega) (by first|omega|(simp;omega)) (rfl)),(UL.fin (L:=qs_175) ⟨_,_,_,rfl,(rfl),hu179⟩ (rfl) (λx hx=>by simp[hx])),(hbQ),(hw_lq),(hend.1),(hend.2),(by unfold Zx;rw[if_neg ω,if_neg ω];omega),(by unfold Ya;rw[if_neg ω,if_neg ω,hw_q];exact afL hbU htk0 (by unfold U8;rw[<-hsc];exact hI.1) hend.1 hend.2)⟩,hS.below⟩
end Go.Proofs.YtdpkjhnfklkkjaaGreat
namespace Go.Sw
open Go Go.RowKit
section
variable {P:Program} [Wld P] [Kp] {τ:Tab} {N:Nat} {w0:World} {X0:List Nat} {e:Env} {b:aZ} {a:Act} {w:World}
theorem KZ[WOk P w0]{O l2:List Oper}{Q:Exit->Act->World->Prop}{k:Env->aZ->Prop}(hτ:dQ P τ=true)(hQ:∀e b a w,k e b->Conc N w0 X0 e b a w->wpList P O.toArray Q l2 a w):∀{l:List Oper} {e:Env} {b:aZ} {a:Act} {w:World},pU N l=true->wo (Den P) τ O l e b k->Conc N w0 X0 e b a w->wpList P O.toArray Q (l++l2) a w
 |[],e,b,a,w,_,hk,hc=>hQ e b a w hk hc
 |o::r,e,b,a,w,hd,hk,hc=>by
  simp only[pU,List.all_cons,gX]at hd;simp only[wo,yA,oI]at hk
  have hdo:∀t,o.dst=some t->DL N t:=by
   intro t ht;have:=hd.1;rw[ht]at this;simpa[DL,I7]using this
  have:=BO (k:=λe b=>wo (Den P) τ O r e b k) (K:=wpList P O.toArray Q (r++l2)) (Q:=Q) hτ hc hdo hk (λe b a w hk hc=>KZ hτ hQ (l:=r) hd.2 hk hc);rw[List.cons_append];unfold wpList;cases hw:Region.wanted o (yielded O.toArray a.tmps)with
  |true=>simp only[if_true];exact .inl (this.1 hw)
  |false=>simp only[eF,if_false];exact this.2 hw
theorem wp1{ops:Array Oper}{Q:Exit->Act->World->Prop}{o:Oper}{rest:List Oper}{u:Value}{w':World}(hg:o.guard=none)(hr:(execOp a.eval o).run P w=.ok (.value u) w')(k:wpList P ops Q rest (a.put o.dst u) w'):wpList P ops Q (o::rest) a w :=
 wpList_plain hg λK hK=>by
  unfold Oper.wp;rw[hr];exact hK _ _ k
theorem Conc.frm(h:Conc N w0 X0 e b a w):Frm N a []:=by
 obtain⟨S,M,h⟩:=h;exact⟨h.sz,h.df.1.1,λt v h=>by simp[lk]at h⟩
theorem Conc.get(h:Conc N w0 X0 e b a w){t:Nat}{u:Value}(hx:ld t e=some (.c (.v u)))(hv:∀A n c,u ≠ .slice A n c):a.tmps.getD t undef=u:=by
 obtain⟨S,M,h⟩:=h;exact(h.env t _ hx).v_
theorem Conc.var(h:Conc N w0 X0 e b a w){t i:Nat}{cs:List Cell}(hx:ld t e=some (.ptr i 0))(hb:ld i b=some (.var cs)):∃g T us,a.tmps.getD t undef=.pointer (some ⟨g,0,none⟩)/\w0.heap.size<=g/\w.heap[g]?=some (.cells us T (0,0))/\RepL w X0 us.toList cs:=by
 obtain⟨S,M,h⟩:=h;obtain⟨m,g,hm,hv,hg,hxe⟩:=(h.env t _ hx).ptr_;obtain⟨m',hm',h1,h2,⟨g',h3⟩,h4⟩:=h.box i _ hb;rw[hm]at hm';cases hm';have h8:=h.ms.st.box _ (h.ms.inS i m hm h2 g hg);exact⟨g,m.T,_,hxe,acK h8.2,h8.1,by simpa using h4.ext (Ext.drop λx hx=>qP _ hx)⟩
theorem Conc.sz(h:Conc N w0 X0 e b a w):a.tmps.size=N/\a.defers=[]/\Below w0.heap.size w0 w:=by
 obtain⟨S,M,h⟩:=h;exact⟨h.sz,h.df.1.1,h.ms.st.below.b0⟩
theorem Conc.kp(h:Conc N w0 X0 e b a w){t:Nat}{u:Value}(ht:(t,u)∈Kp.l):a.tmps.getD t undef=u:=by
 obtain⟨S,M,h⟩:=h;exact h.df.1.2 t u ht
end
theorem Conc.keep(K:List (Nat×Value)){k1:Kp}{N:Nat}{w0:World}{X0:List Nat}{e:Env}{b:aZ}{a:Act}{w:World}(h : @Conc k1 Wi N w0 X0 e b a w)(hK:∀t u,(t,u)∈K->a.tmps.getD t undef=u):@Conc ⟨K,k1.h⟩ Wi N w0 X0 e b a w:=by
 obtain⟨S,M,h⟩:=h;exact⟨S,M,@Sta.mk ⟨K,k1.h⟩ Wi N w0 X0 S M a w e b h.ms h.x0 h.sz ⟨⟨h.df.1.1,λt u ht=>hK t u ht⟩,h.df.2⟩ h.env h.box⟩
section
variable {P:Program} [Wld P] {τ:Tab}
theorem tq{fn:Func}{os:List (Option (TypeId×Nat))}{r:AV}{N:Nat}{w:World}{X:List Nat}{x:Ex}{e:Env}{b:aZ}{a:Act}{w':World}[WOk P w](hτ:dQ P τ=true)(hx:Hz τ fn os r x e b)(hc':Conc N w X e b a w'):bodyPost P fn (Ar λu w1=>RepF w.heap.size w1 X u r/\Below w.heap.size w w1) x.x a w':=by
 obtain⟨S,M,hs⟩:=hc';cases x with
 |normal=>cases hx
 |exit id=>cases hx
 |ret =>
  simp only[Hz]at hx;obtain⟨vs1,b',G,h1,h2,_,h4,_⟩:=um (P:=P) hs hx;obtain⟨us,vs',q1,q2,q3⟩:=abS h4.at hτ h2 h4 h1;refine⟨hs.df.1.1,(if h:us.toArray.size=1 then us.toArray[0]else .tuple us.toArray), ?_,_,rfl, ?_,hs.ms.st.below.b0⟩
  .rw[jV,Sem.run_bind,qbQ];simp[q2]
  .rw[<-q1.eq];refine afX q3 (λg hg=>?_) (h4.nd hs.ms);obtain⟨p,hp,rfl⟩:=iV.1 hg;obtain⟨m,k1,k2,k3,_⟩:=h4.at p hp;exact acK (hs.ms.st.box _ (hs.ms.inS p.1 m k1 k2 p.2 k3)).2
variable [Kp] {N:Nat} {w0:World} {X0:List Nat} {S:List Bx} {M:MM} {e:Env} {b:aZ} {a:Act} {w:World}
theorem Sta.below(h:Sta N w0 X0 S M a w e b){w':World}(hB:Below w.heap.size w w'):Sta N w0 X0 S M a w' e b:=by
 have hx:=Ext.call (bl S++X0) hB
 exact⟨h.ms.call hB,h.x0,h.sz,⟨h.df.1,h.df.2.ext hx⟩,λt v hv=>(h.env t v hv).ext hx λi _ m hm=>⟨m,hm,Comp.refl m⟩,λi x hx'=>by
  obtain⟨m,h1,h2⟩:=h.box i x hx'
  exact⟨m,h1,h2.ext0 hx⟩⟩
end
open Go.WideElems (rd rg pl)
inductive SlotR (w:World) (X:List Nat) (T:TypeId) (s:Nat) (more:List Bx):Value->List (List Cell)->Option Nat->Prop where
 |no:SlotR w X T s more (.slice none 0 0) [] none
 |some {g cap:Nat} {es:List (List Cell)} {uss:List (List Value)} {rest:List Value} (hm:(g,T,(uss.flatten++rest).toArray)∈more) (hr:RepS w X s uss es) (hc:cap*s=(uss.flatten++rest).length) (hx:cap<=maxLen) (hn:es.length<=cap) (h0:0<es.length):SlotR w X T s more (.slice (some ⟨g,0,none⟩) es.length cap) es (some g)
theorem SlotR.data{w:World}{X X1:List Nat}{T:TypeId}{s:Nat}{more:List Bx}{v:Value}{es:List (List Cell)}{og:Option Nat}(h:SlotR w X T s more v es og)(hm:∀q:Bx,q∈more->w.heap[q.1]?=Option.some (Obj.cells q.2.2 q.2.1 (0,0)))(hX:∀x∈X1,x∈X/\x ∉ bl more):RepC w X1 v (.sl s es):=by
 cases h with
 |no=>exact .nil _ _ _
 |some hm' hr hc hx hn h0 =>
  rename_i g cap uss rest;have hh:=hm _ hm';have hcl:=Cl.of_block (X:=X1) hh (λhx=>(hX g hx).2 (iV.2 ⟨_,hm',rfl⟩)) uss.flatten.length;rw[Yf,List.take_left' rfl]at hcl;exact(hr.ext (Ext.drop λx hx=>(hX x hx).1)).sl hcl hn (by unfold maxLen at hx;omega)
end Go.Sw
namespace Go.Sw
open Go
def hf(c p:Rat×Rat):Int:=if c.2<p.2\/(p.2=c.2/\c.1<p.1)then 0 else 1
section
variable {q u1 v1 u2 v2 u3 v3:Rat}
end
@[reducible] def Iv(l h:Int):AV:=.agg [.v (.int .i64 l),.v (.int .i64 h)]
def zi(l h:Int):Int×Bool:=if l>0 then(1,true)else if h<0 then(-1,true)else(0,decide (l=0/\h=0))
def Ua(l h:Int):Option (Int×Int):=if -2305843009213693952<=l/\h<=2305843009213693952 then some (l,h)else none
@[reducible] def Ov(o:Option (Int × Int)):AV:=.tup [Iv (o.getD (0,0)).1 (o.getD (0,0)).2,.bool o.isSome]
theorem QU{l h:Int}(h1 : -2305843009213693952<=l)(h2:h<=2305843009213693952):Ua l h=some (l,h):=if_pos ⟨h1,h2⟩
theorem Je{l h:Int}(h1:¬(-2305843009213693952<=l/\h<=2305843009213693952)):Ua l h=none:=if_neg h1
theorem ajU:min (Int.toNat 32) IntKind.u64.bits=32:=rfl
theorem ag4:min (Int.toNat 16) IntKind.u64.bits=16:=rfl
theorem aiW:min (Int.toNat 48) IntKind.u64.bits=48:=rfl
theorem Gl(a n:Nat):((a:Nat):Int).fdiv ((n:Nat):Int)=((a/n:Nat):Int):=by rw[Yg _ ω];rfl
theorem wu(n:Nat):IntKind.u64.wrap ((n:Nat):Int)=((n%18446744073709551616:Nat):Int):=by rw[IntKind.wrap_u64];omega
theorem Tt{a n:Nat}(hn:n<=64)(ha:a<18446744073709551616):AL .u64 ((a:Nat):Int) ((2^n-1:Nat):Int)=((a%2^n:Nat):Int):=by
 unfold AL;have h2:2^n<=2^64:=Gi ψ hn;have h0:0<2^n:=Nat.pow_pos ψ
 have e:(BitVec.ofInt IntKind.u64.bits ((a:Nat):Int) &&& BitVec.ofInt IntKind.u64.bits ((2^n-1:Nat):Int)).toNat=a%2^n:=by
  show(BitVec.ofInt 64 ((a:Nat):Int) &&& BitVec.ofInt 64 ((2^n-1:Nat):Int)).toNat=a%2^n;rw[BitVec.ofInt_natCast,BitVec.ofInt_natCast,BitVec.toNat_and,BitVec.toNat_ofNat,BitVec.toNat_ofNat,YT (show a<2^64 from ha),YT (show 2^n-1<2^64 by omega),Nat.and_two_pow_sub_one_eq_mod]
 rw[e,wu];have h3:a%2^n<=a:=Nat.mod_le _ _;rw[YT ω]
theorem abm{a b n:Nat}(hn:n<=64)(hb:b<2^n)(ha:2^n*a<18446744073709551616):orI .u64 ((2^n*a:Nat):Int) ((b:Nat):Int)=((2^n*a+b:Nat):Int):=by
 unfold orI;have h2:2^n<=2^64:=Gi ψ hn
 have e:(BitVec.ofInt IntKind.u64.bits ((2^n*a:Nat):Int) ||| BitVec.ofInt IntKind.u64.bits ((b:Nat):Int)).toNat=2^n*a+b:=by
  show(BitVec.ofInt 64 ((2^n*a:Nat):Int) ||| BitVec.ofInt 64 ((b:Nat):Int)).toNat=2^n*a+b;rw[BitVec.ofInt_natCast,BitVec.ofInt_natCast,BitVec.toNat_or,BitVec.toNat_ofNat,BitVec.toNat_ofNat,YT (show 2^n*a<2^64 from ha),YT (show b<2^64 by omega),Nat.two_pow_add_eq_or_of_lt hb]
 have hlt:2^n*a+b<18446744073709551616:=by
  have:=(BitVec.ofInt IntKind.u64.bits ((2^n*a:Nat):Int) ||| BitVec.ofInt IntKind.u64.bits ((b:Nat):Int)).isLt;rw[e]at this;exact this
 rw[e,wu,YT hlt]
theorem TT{a b x0 x1 y0 y1:Nat}(ha:a<18446744073709551616)(hb:b<18446744073709551616)(h1:x0=a%4294967296)(h2:x1=a/4294967296)(h3:y0=b%4294967296)(h4:y1=b/4294967296):
 (x1*y1+(x1*y0+x0*y0%18446744073709551616/4294967296)/4294967296+((x1*y0+x0*y0%18446744073709551616/4294967296)%4294967296+x0*y1)/4294967296)=a*b/18446744073709551616 /\
 x0*y0<=18446744065119617025/\x1*y0<=18446744065119617025/\x0*y1<=18446744065119617025/\x1*y1<=18446744065119617025:=by
 have b1:x0*y0<=4294967295*4294967295:=MZ ω ω;have b2:x1*y0<=4294967295*4294967295:=MZ ω ω;have b3:x0*y1<=4294967295*4294967295:=MZ ω ω;have b4:x1*y1<=4294967295*4294967295:=MZ ω ω;have ea:a=x1*4294967296+x0:=ω
 have eb:b=y1*4294967296+y0:=ω
 have e:a*b=x1*y1*18446744073709551616+(x1*y0+x0*y1)*4294967296+x0*y0:=by rw[ea,eb];grind
 rw[e];generalize x0*y0=p at *;generalize x1*y0=q at *;generalize x0*y1=r at *;generalize x1*y1=s at *;exact⟨ω,ω,ω,ω,ω⟩
theorem L6(a:Nat){n:Nat}(hn:n<=64):AL .u64 ((a:Nat):Int) ((2^n-1:Nat):Int)=((a%2^n:Nat):Int):=by
 have e:AL .u64 ((a:Nat):Int) ((2^n-1:Nat):Int)=AL .u64 ((a%18446744073709551616:Nat):Int) ((2^n-1:Nat):Int):=by
  unfold AL
  have:BitVec.ofInt IntKind.u64.bits ((a:Nat):Int)=BitVec.ofInt IntKind.u64.bits ((a%18446744073709551616:Nat):Int):=by
   show BitVec.ofInt 64 ((a:Nat):Int)=BitVec.ofInt 64 ((a%18446744073709551616:Nat):Int);rw[BitVec.ofInt_natCast,BitVec.ofInt_natCast];apply BitVec.eq_of_toNat_eq;simp
  rw[this]
 rw[e,Tt hn (qx _ ψ),Nat.mod_mod_of_dvd _ (Nat.pow_dvd_pow 2 hn:2^n ∣ 2^64)]
theorem aea(a:Nat):AL .u64 ((a:Nat):Int) 4294967295=((a%4294967296:Nat):Int):=L6 a (n:=32) ψ
theorem WG(a:Nat):AL .u64 ((a:Nat):Int) 65535=((a%65536:Nat):Int):=L6 a (n:=16) ψ
theorem e32:(2:Int)^32=((4294967296:Nat):Int):=rfl
theorem e16:(2:Int)^16=((65536:Nat):Int):=rfl
theorem e48:(2:Int)^48=((281474976710656:Nat):Int):=rfl
theorem iE2{k k':IntKind}{x x' y y':Int}(h:x=x')(h':y=y'):aW [AV.c (Cell.v (Value.int k x)),AV.c (Cell.v (Value.int k' y))]=AV.tup [AV.int k x',AV.int k' y']:=by rw[h,h'];rfl
theorem ibE{k:IntKind}{x x':Int}{y y':Bool}(h:x=x')(h':y=y'):aW [AV.c (Cell.v (Value.int k x)),AV.c (Cell.v (Value.bool y))]=AV.tup [AV.int k x',AV.bool y']:=by rw[h,h'];rfl
def SI(x y:Int):Nat:=x.natAbs*y.natAbs
def ND(x y:Int):Int×Int :=
 let q:Int:=(SI x y/65536:Nat)
 let u:Int:=if SI x y%65536=0 then q else q+1
 if(decide (x<0) != decide (y<0))=true then(-u,-q)else(q,u)
def wC(x y:Int):Int×Int×Bool :=
 if 1208925819614629174706176<=SI x y\/2305843009213693952<SI x y/65536 then(0,0,false)
 else((ND x y).1,(ND x y).2,decide (-2305843009213693952<=(ND x y).1/\(ND x y).2<=2305843009213693952))
theorem Oe{x y d u:Int}{o:Bool}(h:wC x y=(d,u,o)):aW [AV.c (Cell.v (Value.int .i64 d)),AV.c (Cell.v (Value.int .i64 u)),AV.c (Cell.v (Value.bool o))]=AV.tup [AV.int .i64 (wC x y).1,AV.int .i64 (wC x y).2.1,AV.bool (wC x y).2.2]:=by rw[h];rfl
theorem ah1{p:Nat}(h:p/18446744073709551616/65536=0):orI .u64 (IntKind.u64.wrap (((p/18446744073709551616:Nat):Int)*((281474976710656:Nat):Int))) ((p%18446744073709551616/65536:Nat):Int)=((p/65536:Nat):Int):=by
 rw[<-WR,wu,YT ω,Gx];have:=abm (n:=48) (a:=p/18446744073709551616) (b:=p%18446744073709551616/65536) ψ ω ω;have e:(2:Nat)^48=281474976710656:=rfl;rw[e]at this;rw[this];congr 1;omega
theorem aeJ{x y:Int}(h:¬(((x.natAbs*y.natAbs/18446744073709551616/65536:Nat):Int))=0):wC x y=(0,0,false):=if_pos (.inl (by unfold SI;generalize x.natAbs*y.natAbs=p at *;omega))
theorem abw{x y:Int}(h:(((x.natAbs*y.natAbs/65536:Nat):Int))>2305843009213693952):wC x y=(0,0,false):=if_pos (.inr (by unfold SI;generalize x.natAbs*y.natAbs=p at *;omega))
theorem adV{x y d u:Int}{o:Bool}(h1:(((x.natAbs*y.natAbs/18446744073709551616/65536:Nat):Int))=0)(h2:¬(((x.natAbs*y.natAbs/65536:Nat):Int))>2305843009213693952)
 (hd:d=(ND x y).1) (hu:u=(ND x y).2) (ho:o=decide (-2305843009213693952<=(ND x y).1/\(ND x y).2<=2305843009213693952)):wC x y=(d,u,o):=by
 subst hd hu ho;exact if_neg (by unfold SI;generalize x.natAbs*y.natAbs=p at *;omega)
theorem Wy{x y:Int}{s z:Bool}(hs:(decide (x<0) != decide (y<0))=s)(hz:decide (x.natAbs*y.natAbs%65536=0)=z):
 ND x y=(if s then(-(if z then((x.natAbs*y.natAbs/65536:Nat):Int)else((x.natAbs*y.natAbs/65536:Nat):Int)+1),-((x.natAbs*y.natAbs/65536:Nat):Int))else(((x.natAbs*y.natAbs/65536:Nat):Int),if z then((x.natAbs*y.natAbs/65536:Nat):Int)else((x.natAbs*y.natAbs/65536:Nat):Int)+1)):=by
 unfold ND SI;rw[hs];subst hz;simp only[decide_eq_true_eq]
theorem w1{q:Int}(h0:0<=q)(h:¬q>2305843009213693952):IntKind.i64.wrap q=q:=bG ω ω
theorem w2{q:Int}(h0:0<=q)(h:¬q>2305843009213693952):IntKind.i64.wrap (q+1)=q+1:=bG ω ω
theorem w3{q:Int}(h0:0<=q)(h:¬q>2305843009213693952):IntKind.i64.wrap (0-q) = -q:=by rw[bG ω ω];omega
theorem w4{q:Int}(h0:0<=q)(h:¬q>2305843009213693952):IntKind.i64.wrap (0-(q+1)) = -(q+1):=by rw[bG ω ω];omega
theorem Qp{x y:Int}{s z o:Bool}{d u:Int}(h1:(((x.natAbs*y.natAbs/18446744073709551616/65536:Nat):Int))=0)(h2:¬(((x.natAbs*y.natAbs/65536:Nat):Int))>2305843009213693952)
 (hs:(decide (x<0) != decide (y<0))=s) (hz:decide (x.natAbs*y.natAbs%65536=0)=z) (hd:d=(if s then -(if z then((x.natAbs*y.natAbs/65536:Nat):Int)else((x.natAbs*y.natAbs/65536:Nat):Int)+1)else((x.natAbs*y.natAbs/65536:Nat):Int)))
 (hu:u=(if s then -((x.natAbs*y.natAbs/65536:Nat):Int)else(if z then((x.natAbs*y.natAbs/65536:Nat):Int)else((x.natAbs*y.natAbs/65536:Nat):Int)+1))) (ho:o=decide (-2305843009213693952<=d/\u<=2305843009213693952)) :
 aW [AV.c (Cell.v (Value.int .i64 d)),AV.c (Cell.v (Value.int .i64 u)),AV.c (Cell.v (Value.bool o))]=AV.tup [AV.int .i64 (wC x y).1,AV.int .i64 (wC x y).2.1,AV.bool (wC x y).2.2]:=by
 have e1:d=(ND x y).1:=by rw[hd,Wy hs hz];cases s<;>rfl
 have e2:u=(ND x y).2:=by rw[hu,Wy hs hz];cases s<;>rfl
 exact Oe (adV h1 h2 e1 e2 (by rw[ho,e1,e2]))
@[reducible] def upR(a:Rat):Int:=-(-a).floor
theorem WY(a:Rat):a.floor<=upR a:=by
 unfold upR;have h1:=Rat.floor_le (a:=a);have h2:=Rat.floor_le (a:=-a);have:((a.floor+(-a).floor:Int):Rat)<=0:=by rw[Rat.intCast_add];grind
 have:=IL.1 (show((a.floor+(-a).floor:Int):Rat)<=((0:Int):Rat)from this);omega
def dh(a:Rat):Option (Int×Int):=Ua (a*((65536:Int):Rat)).floor (upR (a*((65536:Int):Rat)))
def jR(a b:Int×Int):Option (Int×Int):=Ua (a.1+b.1) (a.2+b.2)
theorem GV{l h:Int}(o:Option (Int×Int))(e:o=Ua l h)(hlh:l<=h):-2305843009213693952<=(o.getD (0,0)).1/\(o.getD (0,0)).1<=(o.getD (0,0)).2/\(o.getD (0,0)).2<=2305843009213693952:=by
 subst e;unfold Ua;split
 .exact⟨κ,κ,κ⟩
 .exact⟨η,η,η⟩
theorem Vz(a:Rat):-2305843009213693952<=((dh a).getD (0,0)).1/\((dh a).getD (0,0)).1<=((dh a).getD (0,0)).2/\((dh a).getD (0,0)).2<=2305843009213693952:=GV _ rfl (WY _)
theorem ovE{l h:Int}{b:Bool}{o:Option (Int×Int)}(e1:l=(o.getD (0,0)).1)(e2:h=(o.getD (0,0)).2)(e3:b=o.isSome):
 aW [AV.agg [Cell.v (Value.int .i64 l),Cell.v (Value.int .i64 h)],AV.c (Cell.v (Value.bool b))]=Ov o:=by subst e1 e2 e3;rfl
theorem ovN{o:Option (Int×Int)}(e:o=none):aW [AV.agg [Cell.v (Value.int .i64 0),Cell.v (Value.int .i64 0)],AV.c (Cell.v (Value.bool false))]=Ov o:=by subst e;rfl
theorem Yz(a:Rat):sz a.floor<=rz a:=by
 refine fZ (ku ?_) (lN a);rw[<-J9,Yg _ (by have:=den_pos a;omega)];exact Int.natAbs_ediv_le_natAbs _ _
theorem aiz{a:Rat}(h:¬(-9223372036854775808<=(a*((65536:Int):Rat)).floor/\(a*((65536:Int):Rat)).floor<=9223372036854775807)):dh a=none :=
 Je (by have:=WY (a*((65536:Int):Rat));omega)
theorem ah2{a:Rat}(h:¬(-9223372036854775808≤-(-(a*((65536:Int):Rat))).floor∧-(-(a*((65536:Int):Rat))).floor<=9223372036854775807)):dh a=none :=
 Je (by have:=WY (a*((65536:Int):Rat));unfold upR at *;omega)
theorem szl(n:Int)(h1 : -9223372036854775808<=n)(h2:n<=9223372036854775807):sz n<=3:=jP h1 h2
theorem ali:rz ((65536:Int):Rat)<=4:=by have:=mQ 65536;have:=jP (n:=65536) ω ω;omega
theorem ZP{l:Int}:List.foldl (λx y=>if y>x then y else x) l [0]=max l 0:=by
 show(if 0>l then 0 else l)=max l 0;split<;>omega
def rt(n:Int):Int:=if n*65536<0 then 0 else(iC (n*65536).natAbs:Nat)
theorem agX(n:Int):(if n*65536<0 then 0 else((iC (n*65536).natAbs:Nat):Int))=rt n:=rfl
def rtU(n:Int):Int:=if rt n*rt n=n*65536 then rt n else rt n+1
theorem MN{n:Int}(h:0<=n):0<=rt n/\rt n*rt n<=n*65536/\n*65536<(rt n+1)*(rt n+1):=by
 have⟨h1,h2⟩:=sO (n*65536).natAbs;have e:(((n*65536).natAbs:Nat):Int)=n*65536:=ω
 unfold rt;rw[if_neg ω];refine⟨ω, ?_, ?_⟩
 .have:=Int.ofNat_le.2 h1;rw[WR]at this;omega
 .have:=Int.ofNat_lt.2 h2;rw[WR,Int.natCast_add]at this;simpa[e]using this
theorem Xm{n:Int}(h:0<=n)(h2:n<=2305843009213693952):0<=rt n/\rt n<=549755813888:=by
 have⟨h0,h1,_⟩:=MN h;refine⟨h0, ?_⟩;apply Decidable.byContradiction;intro hc;have:549755813889*549755813889<=rt n*rt n:=Int.mul_le_mul ω ω ψ h0;omega
theorem Zk{n:Int}(h:0<=n):rt n<=rtU n/\rtU n<=rt n+1/\n*65536<=rtU n*rtU n:=by
 have⟨h0,h1,h2⟩:=MN h;unfold rtU;split
 .omega
 .refine⟨ω,ω,ω⟩
def jr(a:Int×Int):Option (Int×Int):=if a.2<0 then none else Ua (rt (max a.1 0)) (rtU a.2)
theorem Rk{l h:Int}(h0:0<=l)(h1:l<=h):rt l<=rt h:=by
 have⟨a0,a1,a2⟩:=MN h0;have⟨b0,b1,b2⟩:=MN (Int.le_trans h0 h1);apply Decidable.byContradiction;intro hc;have:(rt h+1)*(rt h+1)<=rt l*rt l:=Int.mul_le_mul ω ω ω a0;omega
theorem aii{l h:Int}(h0:¬h<0)(e:rt h*rt h=h*65536):Ov (Ua (rt (max l 0)) (rt h))=Ov (jr (l,h)):=by
 unfold jr rtU;rw[if_neg h0,if_pos e]
theorem aiy{l h:Int}(h0:¬h<0)(e:¬rt h*rt h=h*65536):Ov (Ua (rt (max l 0)) (rt h+1))=Ov (jr (l,h)):=by
 unfold jr rtU;rw[if_neg h0,if_neg e]
end Go.Sw
