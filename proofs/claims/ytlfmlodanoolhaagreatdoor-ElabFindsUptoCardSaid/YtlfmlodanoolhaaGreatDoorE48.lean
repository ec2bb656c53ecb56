import Derived.Test.YtlfmlodanoolhaaGreatDoorE46
import Derived.Test.YtlfmlodanoolhaaGreatDoorE45
set_option linter.all false
set_option maxRecDepth 200000
set_option maxHeartbeats 32000000
namespace Go.Proofs.YtlfmlodanoolhaaGreatDoor
open Go Go.RowKit Go.Proofs.Tryz
attribute [local go_sem] z0f
def wiF(W:World)(s:Sc)(px:ByteArray)(vals:List Value)(i:Nat)(v:Value)(w:World):Prop:=
 if i=5 then∃g,v=.map (some g)∧W.heap.size≤g∧EnvM w g s.sigs
 else if i=10 then∃ve g,v=.agg #[ve,.map (some g),.string (s.path++px)]∧SlT 85 RNm w 2 s.env ve∧W.heap.size≤g∧EnvM w g s.sigs
 else if i=11 then∃b g ve,v=.pointer (some ⟨b,0,none⟩)∧W.heap.size≤b∧W.heap.size≤g∧ScI w b g ve ⟨s.env,s.sigs,s.path++px⟩
 else v=vals.getD i undef
theorem k6c{W:World}{s:Sc}{px:ByteArray}{vals:List Value}{i:Nat}{v:Value}{w w':World}(h:wiF W s px vals i v w)(hx:Ext w w'):wiF W s px vals i v w':=by
 unfold wiF at h⊢;split
 ·rename_i hi;rw[if_pos hi] at h;obtain⟨g,h1,h2,h3⟩:=h;exact⟨g,h1,h2,h3.of_eq (hx.heap h3.lt)⟩
 rename_i hi
 rw[if_neg hi] at h;split
 ·rename_i hi;rw[if_pos hi] at h;obtain⟨ve,g,h1,h2,h3,h4⟩:=h;exact⟨ve,g,h1,h2.keep (.inr (.inr rfl)) hx.kp (fun _ _ _ h=>h),h3,h4.of_eq (hx.heap h4.lt)⟩
 rename_i hi
 rw[if_neg hi] at h;split
 ·rename_i hi;rw[if_pos hi] at h;obtain⟨b,g,ve,h1,h2,h3,h4⟩:=h;exact⟨b,g,ve,h1,h2,h3,h4.ext hx⟩
 ·rename_i hi;rw[if_neg hi] at h;exact h
def WiR(s:Sc)(px:ByteArray)(w:World)(r:Ending)(w':World):Prop:=∃b g ve',r=.returned (.pointer (some ⟨b,0,none⟩))∧w.heap.size≤b∧w.heap.size≤g∧ScI w' b g ve' ⟨s.env,s.sigs,s.path++px⟩∧Ext w w'
theorem j0v(s:Sc)(ve:Value)(mp:Nat)(px:ByteArray)(w:World)(henv:SlT 85 RNm w 2 s.env ve)(hmap:EnvM w mp s.sigs)(hln:s.env.length≤1000000)(hps:s.path.size≤1000000000)(hpx:px.size≤1000000000):
 Calls Tryz.prog 114 #[.agg #[ve,.map (some mp),.string s.path],.string px] w (WiR s px w):=by
 have HE:=Hd henv;have HM:=Hd hmap;have hsl:¬(9223372036854775807<s.path.size+px.size):=by omega
 obtain⟨a,cap,rfl,hcap,hrow⟩:=henv;have HR:=Hd (show∀w',Ext w w'→SlT 85 RNm w' 2 s.env (.slice a s.env.length s.env.length) from fun w' hx=>SlT.keep (⟨a,s.env.length,rfl,y1j _,hrow⟩:SlT 85 RNm w 2 s.env (.slice a s.env.length s.env.length)) (.inr (.inr rfl)) hx.kp (fun _ _ _ h=>h));obtain⟨W1,hW1,hx1,hb1⟩:=k1n w (.slice a s.env.length cap) (.map (some mp)) (.string s.path) 126;have hV1:=hW1.symm;have s1:w.heap.size<W1.heap.size:=hb1.lt;obtain⟨c0,c1,c2⟩:=hb1.later3;have X1:=Hd hx1;obtain⟨e1,he1⟩:=y1h (W:=W1) (w:=W1) (y1g _);have hV1':=hW1.symm.trans he1;have HW1:=Hd he1;have KC:=Hd (fun w'=>j4k a s.env.length cap hcap (by omega) w');have KM:=Hd (fun(w':World) (hx:Ext w w')=>j0i mp s.sigs w' (hmap.of_eq (hx.heap hmap.lt)));clear hV1 hW1 he1 hx1 hb1 hrow hmap;go_enter func114,ntmps114;go_wp2_with fail
 refine z0m 12 (W:=W1) (Ext) (wiF w s px [.pointer (some ⟨w.heap.size,0,none⟩),.slice a s.env.length cap,.slice a s.env.length s.env.length,.pointer (some ⟨w.heap.size,1,none⟩),.map (some mp),undef,.pointer (some ⟨w.heap.size,2,none⟩),.string s.path,.string px,.string (s.path++px),undef,undef]) (fun _ _=>False) (fun _=>true) (by kernel_rfl) (z0s) (by kernel_rfl) (by kernel_rfl) ?_ (y1i e1) (fun i v w w' h hx=>k6c h hx) ?_ (fun A ch w hd hp=>hp.elim) ?_
 ·exact⟨rfl,rfl,rfl,rfl,rfl,rfl,rfl,rfl,rfl,rfl,rfl,rfl,trivial⟩
 ·refine⟨?_,?_,?_,?_,?_,?_,?_,?_,?_,?_,?_,?_,trivial⟩;rotate_left 2
  ·intro A wa hxa hd h0;obtain⟨ea,rfl⟩:=y1h hxa;have q1:=z0d hd 1 6 (by kernel_rfl) rfl;simp[wiF] at q1;clear hd h0;go_simp;refine(KC.o ea.w).mono ?_;rintro _ wk ⟨rfl,rfl⟩;go_simp;first|exact⟨_,rfl,y1g _,rfl⟩|exact⟨y1g _,rfl⟩|exact⟨_,rfl,rfl⟩|exact y1g _|exact rfl
  rotate_left 2
  ·intro A wa hxa hd h0;obtain⟨ea,rfl⟩:=y1h hxa;have q4:=z0d hd 4 9 (by kernel_rfl) rfl;simp[wiF] at q4;clear hd h0;go_simp;refine(KM.o ea.w (X1.o.trans ea.ext)).mono ?_;rintro _ wk ⟨rfl,hm,hx⟩;have hsz:w.heap.size≤ea.w.heap.size:=(X1.o.trans ea.ext).size;go_simp;first|exact⟨_,rfl,hx,_,rfl,hsz,hm⟩|exact⟨hx,_,rfl,hsz,hm⟩|exact⟨_,rfl,_,rfl,hsz,hm⟩
  rotate_left 4
  ·intro A wa hxa hd h0;obtain⟨ea,rfl⟩:=y1h hxa;have q2:=z0d hd 2 7 (by kernel_rfl) rfl;simp[wiF] at q2;obtain⟨g5,q5,hg5⟩:=z0d hd 5 10 (by kernel_rfl) rfl;simp at q5;have HG5:=Hd hg5;clear hg5;have q9:=z0d hd 9 14 (by kernel_rfl) rfl;simp[wiF] at q9;clear hd h0;go_simp;have HS2:=Hd (HR.o ea.w (X1.o.trans ea.ext));first|exact⟨_,rfl,y1g _,_,_,rfl,HS2.o,HG5.o⟩|exact⟨y1g _,_,_,rfl,HS2.o,HG5.o⟩|exact⟨_,rfl,_,_,rfl,HS2.o,HG5.o⟩
  ·intro A wa hxa hd h0;obtain⟨ea,rfl⟩:=y1h hxa;obtain⟨ve10,g10,q10,hg10⟩:=z0d hd 10 15 (by kernel_rfl) rfl;simp at q10;have o10:=hg10.1.oneCell;have HG10:=Hd hg10;clear hg10;clear hd h0;go_simp;obtain⟨h1,h2,h3⟩:=HG10.o;obtain⟨wb,hwb,hxb,hbb⟩:=k1n ea.w ve10 (.map (some g10)) (.string (s.path++px)) 126;have hvb:=hwb.symm;have hsz:w.heap.size≤ea.w.heap.size:=(X1.o.trans ea.ext).size;have HSC:=Hd (show ScI wb ea.w.heap.size g10 ve10 ⟨s.env,s.sigs,s.path++px⟩ from⟨hbb,h1.keep (.inr (.inr rfl)) hxb.kp (fun _ _ _ h=>h),h3.of_eq (hxb.heap h3.lt)⟩);clear hwb hbb h1 h3;go_simp;first|exact⟨_,rfl,hxb,_,g10,ve10,rfl,hsz,h2,HSC.o⟩|exact⟨hxb,_,g10,ve10,rfl,hsz,h2,HSC.o⟩|exact⟨_,rfl,_,g10,ve10,rfl,hsz,h2,HSC.o⟩
  all_goals
   intro A wa hxa hd h0;obtain⟨ea,rfl⟩:=y1h hxa;try (have q0:=z0d hd 0 5 (by decide) rfl;simp[wiF] at q0)
   try (have q3:=z0d hd 3 8 (by decide) rfl;simp[wiF] at q3)
   try (have q6:=z0d hd 6 11 (by decide) rfl;simp[wiF] at q6)
   try (have q7:=z0d hd 7 12 (by decide) rfl;simp[wiF] at q7)
   try (have q8:=z0d hd 8 13 (by decide) rfl;simp[wiF] at q8)
   have r2:=z0c h0 2 (by kernel_rfl);simp at r2;have r1:=z0c h0 1 (by kernel_rfl);simp at r1;clear hd h0;go_simp;first|exact⟨_,rfl,y1g _,rfl⟩|exact⟨y1g _,rfl⟩|exact rfl|exact⟨_,rfl,rfl⟩|exact y1g _
 ·intro A wa hk;obtain⟨f,rfl,hxa,hdn,hrs⟩:=hk.fin (n:=17) rfl;obtain⟨ea,rfl⟩:=y1h hxa;obtain⟨b,g,ve',k16,hbx⟩:=hdn 11 16 rfl rfl;have HB:=Hd hbx;clear hbx;clear hdn hrs;simp only[List.drop_succ_cons,List.drop_zero];simp[List.range,List.range.loop,k16];clear k16;obtain⟨x1,x2,x3⟩:=HB.o;go_wp2_with fail
  refine bodyPost_ret (v:=.pointer (some ⟨b,0,none⟩)) ?_ rfl ⟨b,g,ve',rfl,x1,x2,x3,X1.o.trans ea.ext⟩;simp[results,results114,go_sem]
end Go.Proofs.YtlfmlodanoolhaaGreatDoor
