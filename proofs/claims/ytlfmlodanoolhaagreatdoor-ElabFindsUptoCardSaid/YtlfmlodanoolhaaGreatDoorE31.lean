import Derived.Test.YtlfmlodanoolhaaGreatDoorE30
import Derived.Test.YtlfmlodanoolhaaGreatDoorE29
set_option linter.all false
set_option maxRecDepth 200000
set_option maxHeartbeats 32000000
namespace Go.Proofs.YtlfmlodanoolhaaGreatDoor
open Go Go.RowKit Go.Proofs.Tryz
attribute [local go_sem] z0f
theorem j2n(m:Mdl)(h:z0e z0i m.items≤10000000):(z4t m).length≤10000000:=by
 have h1:=j0o (q2m m.items) [];have h2:=q8r (z3s m.items);rw[j8m] at h2;have h3:=q8n m.items;unfold z4t;simp only[List.length_nil] at h1;omega
theorem j2c:Enters Tryz.prog 101:=⟨fun _ _=>by kernel_rfl⟩
theorem k3h(N:ByteArray→Prop)(s:ByteArray)(p:Addr)(mp:Nat)(w:World)(hp:w.cell? p=some (.map (some mp)))(hs:SetB w mp N):
 Calls Tryz.prog 101 #[.string s,.pointer (some p)] w fun e w'=>e=.returned (.bool (yes (¬N s)))∧Ext w w':=by
 have hask:=hs.ask underlying119 underlying9 z9t s;by_cases hN:N s
 ·rw[yes_iff.2 hN] at hask;rw[yes_no.2 (show¬¬N s from fun h=>h hN)];clear hN hs;go_enter func101,ntmps101
  go_wp2
  go_ret;exact⟨rfl,y1g _⟩
 ·rw[yes_no.2 hN] at hask;rw[yes_iff.2 hN];clear hN hs;go_enter func101,ntmps101
  go_wp2
  go_ret;exact⟨rfl,y1g _⟩
theorem q9p:Enters Tryz.prog 100:=⟨fun _ _=>by kernel_rfl⟩
theorem j8j(B:Nat)(m:Mdl)(out:List ByteArray)(p:Addr)(mp:Nat)(w:World)(cs:List Value)(hp:w.cell? p=some (.map (some mp)))(hlt:p.block<w.heap.size)(hs:SetB w mp (fun s=>s∈out))(hR:RM w B m cs)(hB:B≤w.heap.size)
 (hsz:z0e z0i m.items≤10000000):Calls Tryz.prog 100 #[.agg cs.toArray,.pointer (some p)] w fun e w'=>e=.returned (.bool (yes (z7q out m)))∧Ext w w':=by
 have HR:=Hd hR;have hlen:=j2n m hsz;obtain⟨v1,v2,v3,rfl,hp1,hq1,hi1⟩:=hR;have o1:=hp1.oneCell;have o2:=hq1.oneCell;have o3:=hi1.oneCell;obtain⟨W1,e1,hV1,hx1,hz1,c0,c1,c2,c3⟩:=q2c w (.string m.name) v1 v2 v3 30;have HX:=Hd (hx1.trans e1.ext);have hp2:e1.w.cell? p=some (.map (some mp)):=(HX.o.cell hlt).trans hp;have hs2:SetB e1.w mp (fun s=>s∈out):=hs.kept HX.o.gr (by simp);have hask:=hs2.ask underlying119 underlying9 z9t m.name;have HS2:=Hd hs2;have HP2:=Hd (y1x hp2 (y1m hlt HX.o.size));have hmf:=@hmf_ Tryz.prog;have GU:=Hd (j2o B m e1.w _ (HR.o.ext HX.o hB) (y1k hB HX.o.size) hsz);clear hp1 hq1 hi1 hx1 hz1 hs hp hlt hs2 HR hsz;by_cases hN:m.name∈out
 ·rw[yes_iff.2 hN] at hask;rw[yes_no.2 (show¬z7q out m from fun h=>h.1 hN)];clear hN;go_enter func100,ntmps100
  go_wp2
  go_ret;exact⟨rfl,HX.o⟩
 ·rw[yes_no.2 hN] at hask;go_enter func100,ntmps100;go_wp2_with fail
  go_at_call 62;refine GU.o.mono ?_;rintro _ w1 ⟨v,rfl,hown,hx⟩
  have GC:=Hd (z7n 101 j2c (fun s=>¬s∈out) (.pointer (some p)) (z4t m) w1
   (fun x _ w' hw'=>k3h (fun s=>s∈out) x p mp w' (((hx.trans hw').cell HP2.o.2).trans HP2.o.1) (HS2.o.kept (hx.trans hw').gr (by simp))) v (SStr.of_row hown) (by omega))
  have HX1:=Hd (HX.o.trans hx);clear hown hx GU;by_cases hex:∃s,s∈z4t m∧¬s∈out
  ·rw[yes_iff.2 hex] at GC;have R:=Hd (yes_no.2 (show¬z7q out m from fun h=>by obtain⟨s,h1,h2⟩:=hex;exact h2 (h.2 s h1)));clear hex hN;go_wp2_with fail
   go_at_call 61;refine GC.o.mono ?_;rintro _ w2 ⟨rfl,hx2⟩;have HX2:=Hd (HX1.o.trans hx2);clear hx2
   go_wp2
   go_ret;exact⟨by rw[R.o];rfl,HX2.o⟩
  ·rw[yes_no.2 hex] at GC;have R:=Hd (yes_iff.2 (show z7q out m from⟨hN,fun s hs=>Classical.byContradiction fun h=>hex ⟨s,hs,h⟩⟩));clear hex hN;go_wp2_with fail
   go_at_call 61;refine GC.o.mono ?_;rintro _ w2 ⟨rfl,hx2⟩;have HX2:=Hd (HX1.o.trans hx2);clear hx2
   go_wp2
   go_ret;exact⟨by rw[R.o];rfl,HX2.o⟩
theorem z9u{P:Program}{w:World}{ops:Array Oper}{rest:List Oper}{o:Oper}{a:Act}{Q:Exit→Act→World→Prop}(hgd:o.guard=none)(s x:Operand)(t:TypeId)
 (ho:o.op=.call {callee:=.builtin .append,args:=#[s,x],argTypes:=#[t,t]})
 (base:Nat) (e:TypeId) (i:TypeInfo) (z:Value) (size bytes:Nat) (ht:P.underlying t=some (.slice e)) (hi:P.info? e=some i) (hz:i.zero=some z)
 (hsize:i.size=size) (hby:i.bytes=bytes) (hzs:z.cells.size=size) (hsz:0<size) (hb:bytes≤1000)
 (v:Value) (n:Nat) (xs:List Value) (hs:a.eval s=v) (hown:w.ownsRow base e size v n xs)
 (ad:Addr) (c:Nat) (news:List Value) (hx:a.eval x=.slice (some ad) 1 c) (hl:news.length=1*size) (hnews:∀j u,news[j]? =some u→w.cell? (ad.add j)=some u) (h1:∀u∈news,u.oneCell'=true)
 (hn:n≤1000000000) (hbase:base≤w.heap.size)
 (h:∀v' w',w'.ownsRow base e size v' (n+1) (xs++news)→w.grownBy w' v.ownBlock→wpList P ops Q rest (a.put o.dst v') w'):wpList P ops Q (o::rest) a w:=
 wpList_plain hgd fun _ hK=>by
  subst hsize;have hbytes:(n+1)*bytes≤140737488355328:=by
   calc (n+1)*bytes≤1000000001*1000:=Nat.mul_le_mul (by omega) hb
    _≤140737488355328:=by decide
  obtain⟨v',w',hr,h2,h3,h4⟩:=run_append_own (P:=P) w base t o.type e i z i.size bytes ht hi hz rfl hby hzs hsz v n xs hown ad 1 c news hl hnews h1 (by simp only[maxLen];omega) hbytes hbase;unfold Oper.wp execOp;simp only[ho,resolve,invoke,builtin,Sem.run_bind,Sem.run_pure,Result.andThen_ok,List.map_toArray,List.map_cons,List.map_nil,hs,hx,hr];exact hK _ _ (h v' w' h2 h3)
theorem z9l{X:World}{base k:Nat}{vo:Value}{xs:List Value}(h:X.ownsRow base 9 1 vo k xs):∃a c,vo=.slice a k c:=by
 rcases h.2 with⟨rfl,h0⟩|⟨g,cap,cur,rfl,_⟩
 ·exact⟨none,0,by rw[h0]⟩
 ·exact⟨_,_,rfl⟩
theorem q6f{X:World}{lb base k:Nat}{t:TypeId}{vo:Value}{cs xs:List Value}(ht:t≠9)(hbo:Blk X lb t cs)(hro:X.ownsRow base 9 1 vo k xs):some lb≠vo.ownBlock:=by
 rcases z8e hro with h0|⟨g',cur,h1,h2⟩
 ·rw[h0];simp
 ·intro e;rw[h1] at e;cases e;have:=(show X.heap[_]? =_ from hbo).symm.trans h2;simp at this;exact ht this.2
theorem q5f{X:World}{mp base k:Nat}{N:ByteArray→Prop}{vo:Value}{xs:List Value}(hs:SetB X mp N)(hro:X.ownsRow base 9 1 vo k xs):some mp≠vo.ownBlock:=by
 obtain⟨es,clock,hb,-⟩:=hs;rcases z8e hro with h0|⟨g',cur,h1,h2⟩
 ·rw[h0];simp
 ·intro e;rw[h1] at e;cases e;have:=hb.symm.trans h2;cases this
theorem z9a{X:World}{lb mp:Nat}{t:TypeId}{cs:List Value}{N:ByteArray→Prop}(hbo:Blk X lb t cs)(hs:SetB X mp N):some mp≠some lb:=by
 intro e;cases e;obtain⟨es,clock,hb,-⟩:=hs;have:=hb.symm.trans (show X.heap[_]? =_ from hbo);cases this
structure OInv(w:World)(fb db mp:Nat)(vf:Value)(out:List ByteArray)(N:ByteArray→Prop)(v:Value)(X:World):Prop where
 row:X.ownsRow w.heap.size 9 1 v out.length (out.map .string)
 fbk:Blk X fb 24 [vf]
 dbk:Blk X db 119 [.map (some mp)]
 set:SetB X mp N
 ext:Ext w X
theorem j1j{X Y:World}{base k:Nat}{v:Value}{xs:List Value}(h:X.ownsRow base 9 1 v k xs)(hx:Ext X Y):Y.ownsRow base 9 1 v k xs:=by
 refine h.kept hx.gr ?_;rcases z8e h with h0|⟨g,cur,h1,-⟩
 ·exact .inl h0
 ·right;rw[h1];simp
theorem OInv.later{w X Y:World}{fb db mp:Nat}{vf:Value}{out:List ByteArray}{N:ByteArray→Prop}{v:Value}(h:OInv w fb db mp vf out N v X)(hx:Ext X Y):OInv w fb db mp vf out N v Y:=
 ⟨j1j h.row hx,h.fbk.ext hx,h.dbk.ext hx,h.set.kept hx.gr (by simp),h.ext.trans hx⟩
theorem OInv.push{w X Y:World}{fb db mp:Nat}{vf:Value}{out:List ByteArray}{N:ByteArray→Prop}{v v':Value}{s:ByteArray}(h:OInv w fb db mp vf out N v X)(hg:X.grownBy Y v.ownBlock)
 (hr:Y.ownsRow w.heap.size 9 1 v' (out.length+1) (out.map .string++[.string s])):OInv w fb db mp vf (out++[s]) N v' Y:=by
 refine⟨by rw[List.length_append,List.map_append];exact hr,(hg.block fb h.fbk.lt (q6f (by decide) h.fbk h.row)).trans h.fbk,(hg.block db h.dbk.lt (q6f (by decide) h.dbk h.row)).trans h.dbk,h.set.kept hg (q5f h.set h.row).symm,h.ext.grown hg fun r e=>?_⟩;rcases h.row.2 with⟨hv,_⟩|⟨g,cap,cur,hv,hge,_⟩
 ·rw[hv] at e;cases e
 ·rw[hv] at e;obtain rfl:g=r:=by simpa [Value.ownBlock] using e
  exact hge
theorem OInv.add{w X:World}{fb db mp:Nat}{vf:Value}{out:List ByteArray}{N N':ByteArray→Prop}{v:Value}(h:OInv w fb db mp vf out N v X)(hm:w.heap.size≤mp)(o:Obj)(hs:SetB (z4f X mp o) mp N'):OInv w fb db mp vf out N' v (z4f X mp o):=by
 have hg:=z4i X mp o;exact⟨h.row.kept hg (.inr (q5f h.set h.row).symm),(hg.block fb h.fbk.lt (z9a h.fbk h.set).symm).trans h.fbk,(hg.block db h.dbk.lt (z9a h.dbk h.set).symm).trans h.dbk,hs,h.ext.grown hg fun r e=>by cases e;exact hm⟩
theorem q6u{f:List Mdl}{out:List ByteArray}{i:Nat}(h:i<f.length)(h1:z7q out f[i])(h2:∀j,∀h':j<f.length,j<i→¬z7q out f[j]):z8h f out=some f[i]:=by
 unfold z8h;rw[List.find?_eq_some_iff_getElem];exact⟨yes_iff.2 h1,i,h,rfl,fun j hj=>by rw[yes_no.2 (h2 j (by omega) hj)];rfl⟩
theorem k7a{f:List Mdl}{out:List ByteArray}(h:∀x,x∈f→¬z7q out x):z8h f out=none:=by
 unfold z8h;exact List.find?_eq_none.2 fun x hx hc=>h x hx (yes_iff.1 hc)
theorem j8r(B:Nat)(f:List Mdl)(w:World)(vf:Value)(hS:Sl (RM w B) w B 4 f vf)(hB:B≤w.heap.size)(hsz:f.length≤1000000000)(hit:∀m,m∈f→z0e z0i m.items≤10000000):
 Calls Tryz.prog 64 #[.agg #[vf]] w fun e w'=>∃v,e=.returned v∧w'.ownsRow w.heap.size 9 1 v (z3w f).length ((z3w f).map .string)∧Ext w w':=by
 have HS:=Hd hS;obtain⟨a,cap,rfl,hcap,hrow⟩:=hS;have HROW:=Hd hrow;obtain⟨W1,hW1,hx1,hb1⟩:=z4w w (.slice a f.length cap) 24;obtain⟨W2,hW2⟩:∃W2,W2=W1.alloc (.map #[] 0):=⟨_,rfl⟩;have hx2:Ext W1 W2:=by rw[hW2];exact y1v _ _
 have hs2:SetB W2 W1.heap.size (fun _=>False):=by rw[hW2];exact SetB.new W1
 obtain⟨W3,hW3,hx3,hb3⟩:=z4w W2 (.map none) 119;have m0:=hb3.get1;have n0:=hb3.free1;obtain⟨W4,hW4⟩:∃W4,W4=W3.setCell ⟨W2.heap.size,0,none⟩ (.map (some W1.heap.size)):=⟨_,rfl⟩;have hb4:Blk W4 W2.heap.size 119 [.map (some W1.heap.size)]:=by rw[hW4];exact hb3.store1 _
 have hx4:Ext W2 W4:=by rw[hW4];exact hx3.setCell (y1j _) _
 have hmp:w.heap.size≤W1.heap.size:=hx1.size;obtain⟨fb,hfb⟩:∃n,n=w.heap.size:=⟨_,rfl⟩
 have HO:=Hd (show OInv w w.heap.size W2.heap.size W1.heap.size (.slice a f.length cap) [] (fun s=>s∈([]:List ByteArray)) (.slice none 0 0) W4 from
  ⟨World.ownsRow_nil _ _ _ _,(hb1.ext hx2).ext hx4,hb4,(hs2.kept hx4.gr (by simp)).congr (fun s=>by simp),(hx1.trans hx2).trans hx4⟩)
 have hV1:=hW1.symm;have hV2:=hW2.symm;have hV3:=hW3.symm;have hV4:=hW4.symm;have HIT:=Hd hit;have hmm:=@run_makeMap Tryz.prog;have hmf:=@hmf_ Tryz.prog;clear hcap hrow hx1 hb1 hx2 hs2 hx3 hb3 hb4 hx4 hW1 hW2 hW3 hW4 hit;go_enter func64,ntmps64;go_wp2_with fail
 go_loopw [3] (fun v wr=>∃out,OInv w w.heap.size W2.heap.size W1.heap.size (.slice a f.length cap) out (fun s=>s∈out) v wr∧Ordered f out∧z5g f (f.length - out.length) out=z3w f) (fun v _=>match v with|.slice _ n _=>f.length - n|_=>0)
 case atStart=>exact⟨[],HO.o,q3x f,rfl⟩
 case round=>
  obtain⟨out,hinv,hord,hfin⟩:=hrel;obtain⟨va,vc,rfl⟩:=z9l hinv.row;have HOR:=Hd hord;have HFI:=Hd hfin;have hle:=hord.le;have hb0:=hinv.fbk.get1;have hd0:=hinv.dbk.get1;have HV:=Hd hinv;have hltd:=hinv.dbk.lt
  have KI:=Hd (q5x 100 q9p (fun m=>z7q out m) (.pointer (some ⟨W2.heap.size,0,none⟩)) B f wr
   (fun x hx w' cs hw hR hB'=>j8j B x out ⟨W2.heap.size,0,none⟩ W1.heap.size w' cs (hw.at_ hd0) (y1m hltd hw.size) (HV.o.set.kept hw.gr (by simp)) hR hB' (HIT.o x hx))
   (.slice a f.length cap) (HS.o.extRM HV.o.ext hB) (y1k hB HV.o.ext.size) hsz)
  clear hinv hord hfin hltd HS HIT HO;go_wp2_with fail
  go_at_call 65;refine KI.o.mono ?_;rintro _ w1 ⟨hx,(⟨i,h,h1,h2,rfl⟩|⟨h1,rfl⟩)⟩
  ·obtain⟨e1,rfl⟩:=y1h hx;obtain⟨b,o,v0,v1,v2,v3,rfl,hbB,hR,hC,o0,o1,o2,o3⟩:=HROW.o.open4 h;obtain⟨v1',v2',v3',hcs,-,-,-⟩:=hR;simp only[List.cons.injEq,and_true] at hcs;obtain⟨rfl,rfl,rfl,rfl⟩:=hcs;have hC0:=Hd (fun(X:World) (hX:Ext w X)=>(hC.ext hX).get4.1);have d0:=hC0.o e1.w (HV.o.ext.trans hx);have HV1:=Hd (HV.o.later hx);have hf1:=HV1.o.fbk.get1;have hord1:=HOR.o.step (q6u h h1 h2);have hle1:=hord1.le;rw[List.length_append,List.length_singleton] at hle1;have HO1:=Hd (y1x hord1 ((j5e HOR.o (q6u h h1 h2)).symm.trans HFI.o));have hnn:decide ((i:Int)<0)=false:=decide_eq_false (by omega);have hil:(i:Int)<(f.length:Nat):=by omega
   obtain⟨ti,hti,htz,hts,htb⟩:=info_parts k9j;clear hC hx h1 h2 KI HROW HOR HFI hord1;generalize f[i].name=nm at*;go_wp2_with (at_builtin;refine z9u rfl _ _ 104 rfl w.heap.size 9 ti (.string ⟨#[]⟩) 1 16 underlying104 hti htz hts htb rfl (by decide) (by decide) (.slice va out.length vc) out.length (out.map .string) rfl (HV1.o.row.alloc _) ⟨e1.w.heap.size,0,none⟩ 1 [.string nm] rfl rfl (cell_one_new _ _ _) (by simp[Value.oneCell']) (by omega) (by have:=HV1.o.ext.size;simp;omega) ?_;intro v' w5 hown' hgrow)
   obtain⟨va',vc',rfl⟩:=z9l hown';have HV5:=Hd ((HV1.o.later (y1v e1.w _)).push hgrow hown');have y0:=fun e:Later w5=>e.ext.at_ HV5.o.dbk.get1
   have y1:=fun e:Later w5=>e.ext.at_ HV5.o.fbk.get1
   have y2:=fun e:Later w5=>hC0.o e.w (HV5.o.ext.trans e.ext)
   clear hown' hgrow hC0 hti htz hts htb HV1 HV hd0 hb0 d0 hf1;refine z0n (W:=w5) (by kernel_rfl) rfl (by kernel_rfl) (by kernel_rfl) (y1g _) ?_;dsimp only[List.dropLast]
   repeat (go_big_quiet_step (fail))
   refine wpQuiet_nil ?_;intro e;obtain⟨oo,hup,hs6⟩:=(HV5.o.set.kept e.ext.gr (by simp)).add underlying119 underlying9 nm;have HV6:=Hd ((HV5.o.later e.ext).add hmp oo (hs6.congr (N':=fun s=>s∈out++[nm]) (fun s=>by simp)));clear hs6 HV5;go_wp2_with fail
   go_roundw;case rel=>exact⟨out++[nm],HV6.o,HO1.o.1,HO1.o.2⟩
   case measure=>simp only;omega
  ·have hno:=k7a h1;have FIN:=Hd (show out=z3w f from by rw[←HFI.o,j5f _ hno]);have HV1:=Hd (HV.o.later hx);clear hno h1 hx KI HROW;go_wp2_with fail
   go_ret;exact⟨_,rfl,by rw[←FIN.o];exact HV1.o.row,HV1.o.ext⟩
end Go.Proofs.YtlfmlodanoolhaaGreatDoor
