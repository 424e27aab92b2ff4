import Derived.Test.YtfmpphplbdojbaaGreatDoorQAQ
import Derived.Test.YtfmpphplbdojbaaGreatDoorQAB
namespace Go.Proofs.YtfmpphplbdojbaaGreatDoor
open Lib(hid)
set_option linter.all false
set_option maxHeartbeats 40000000
set_option maxRecDepth 100000
section
open Go.RowKit
variable {E:Ev}{S:AB}{c n k:Nat}{g:Bool}{w w0 w1 w2:World}{v:Value}{ps:List Nat}{ts:List Tr}{rs:List Nat}{us:List Tr}{T X:R Tr}
theorem FS {p:Nat}{P:World→Prop}{fn:FuncId}{args:Array Value}{Q:Ending→World→Prop} (h:Hid (Sx E c n g w0 P T X w)) (hC:X≠.out→Calls Tryz.prog fn args w (fE E c g X w0 p)) (hB:∀ k w',Ans E c g T w0 (Up k) w'→Q (Up k) w')
  (hQ:∀ w',Hid (Ans E c g T w0 (.returned (.pointer (some ⟨p,0,none⟩))) w')→Q (.returned (.pointer (some ⟨p,0,none⟩))) w'):Calls Tryz.prog fn args w Q:=by
 refine (hC (fun e=>h.out.ne (by rw [h.out.eq,e]))).mono ?_;rintro e w' ⟨hp,hA2⟩;rw [← h.out.eq] at hA2;rcases hA2.shape with ⟨q,rfl⟩|⟨k2,rfl⟩
 ·have:=hp q rfl;subst this;exact hQ w' hA2
 ·exact hB k2 w' hA2
theorem fE.up {p m:Nat} (h:Ans E c g T w0 (Up m) w):fE E c g T w0 p (Up m) w:=⟨fun _ hq=>(by cases hq),h⟩
theorem uQ {fr t0 p q:Nat}{x:Tr}{kv:Value} (H:∀ j,j≤k→aB E (kA E.toEnv j)) (hkk:k≤1000000000000) (h:Rd E c n g w) (hn:n < E.l.length) (hnd:Nd E c w0 p 0 (-1) fr t0 kv [q] [x] [] [] w) (hr:sE E.toEnv (kA E.toEnv k) fr x n g≠.out) :
  Calls Tryz.prog 216 #[.pointer (some ⟨c,0,none⟩),.pointer (some ⟨p,0,none⟩)] w (fE E c g (sE E.toEnv (kA E.toEnv k) fr x n g) w0 p):=by
 have HA:=hid H;clear H;have HLT:=hid hn;clear hn;have H0:=Sx.startN h hnd hr rfl
 conv at H0=>arg 1;arg 8;unfold sE
 simp only [oA,mA] at H0;clear h hnd hr;obtain⟨hk0,_,_,_,_⟩:=H0.out.ex.opn.blk.cells;have hfz0:=H0.out.ex.opn.blk.free 0;have H1:Hid (Sx _ _ _ _ _ _ _ _ (w.setCell ⟨p,0,none⟩ (.int .u8 30))):=dB H0 30;clear H0;obtain⟨_,_,_,hat,_⟩:=H1.out.rd.cells;have hsm:((n:Nat):Int)≤1099511627776:=by have:=H1.out.rd.at_;have:=H1.out.rd.lie.small;omega
 have hfz:=H1.out.rd.free 3;have HN:=ZA H1 HLT;clear H1;obtain⟨n1,hm⟩:∃ m,m=n+1:=⟨_,rfl⟩;simp only [← hm] at HN;clear hm;go_enter Tryz.func216,Tryz.ntmps216;go_wp2_with fail;generalize (w.setCell ⟨p,0,none⟩ (.int .u8 30)).setCell ⟨c,3,none⟩ (.int .i64 (((n:Nat):Int)+1))=wB at *;clear hat hsm hfz hfz0 hk0;have H2:=gX HN;refine sS H2 0 ?_;intro q3 w3 H3;clear H2;go_wp2_with fail;cases h1:E.is n1 [58] with
 | true =>
  have d1:(E.word (n1:Nat)==[58])=true:=h1;simp only [h1,if_true] at H3;refine cA H3 ?_;intro w4 H4;clear H3;go_wp2_with fail;refine vE H4 h1 ?_;intro n5 w5 hm H5;clear H4 h1;simp only [← hm] at H5;clear hm;have H6:=PN HN H5;clear H5 HN;go_wp2_with fail;refine FS H6 (fun hr=>(HA.out k (Nat.le_refl _)).slice _ _ _ _ _ _ _ _ _ _ _ _ _ _ H6.out.rd H6.out.ex hr) (fun _ _ h=>⟨rfl,fE.up h⟩) ?_;intro wz HZ;clear H6;go_wp2_with fail;go_ret;exact fE.mk HZ.out
 | false =>
  have d1:(E.word (n1:Nat)==[58])=false:=h1;simp only [h1,Bool.false_eq_true,if_false] at H3;refine cA H3 ?_;intro w4 H4;clear H3 h1;have H4':=BX H4;clear H4;go_wp2_with fail;refine iF (F:=.expr) H4' (hid (HA.out k (Nat.le_refl _))) (by decide) ⟨rfl,rfl⟩ (fun _ _ h=>⟨rfl,fE.up h⟩) ?_;intro q5 u5 n5 w5 H5;clear H4';go_wp2_with fail;cases h2:E.is n5 [58] with
  | true =>
   simp only [h2,if_true] at H5;refine vE H5 h2 ?_;intro n6 w6 hm H6;clear H5 h2;simp only [← hm] at H6;clear hm;have H7:=PN HN H6;clear H6 HN;go_wp2_with fail;refine FS H7 (fun hr=>(HA.out k (Nat.le_refl _)).slice _ _ _ _ _ _ _ _ _ _ _ _ _ _ H7.out.rd H7.out.ex hr) (fun _ _ h=>⟨rfl,fE.up h⟩) ?_;intro wz HZ;clear H7;go_wp2_with fail;go_ret;exact fE.mk HZ.out
  | false =>
   simp only [h2,Bool.false_eq_true,if_false] at H5;refine gH H5 h2 ?_;intro w6 H6;clear H5 h2;have H7:=pL H6 (by simp);clear H6;go_wp2_with fail
   go_loopg [6] k (fun j v wr=>cO E c g w0 wB (sE E.toEnv (kA E.toEnv k) fr x n g) (F.indexMore fr x) k j v wr)
   case atStart=>exact⟨n5,[u5],[q5],by simp;omega,H7⟩
   case round =>
    clear H7;obtain⟨n8,acc,ps,hl,H8⟩:=hrel;have HL:=hid hl;clear hl;rcases gk with _|j
    ·exact absurd H8.out.eq H8.out.ne
    ·replace H8:Hid (Sx _ _ _ _ _ _ _ (fC E.toEnv (kA E.toEnv j) fr x acc n8 g) _):=H8
     conv at H8=>arg 1;arg 8;unfold fC
     obtain⟨_,_,_,hat,_⟩:=H8.out.rd.cells;have hsm:((n8:Nat):Int)≤1099511627776:=by have:=H8.out.rd.at_;have:=H8.out.rd.lie.small;omega
     cases h3:E.is n8 [44] with
     | true =>
      have d3:(E.word (n8:Nat)==[44])=true:=h3;have HLT8:=hid (gA h3);cases h4:E.is (n8+1) [93] with
      | false =>
       have d4:(E.word (((n8:Nat):Int)+1)==[93])=false:=by rw [show (((n8:Nat):Int)+1)=((n8+1:Nat):Int) from by omega];exact h4
       simp only [h3,h4,Bool.not_false,Bool.and_true,if_true] at H8;clear h3 h4;go_wp2_with fail;refine cA H8 ?_;intro w9 H9;clear H8 hat;obtain⟨_,_,_,hat,_⟩:=H9.out.rd.cells;go_wp2_with fail;refine OA H9 _ ?_;intro w10 H10;clear H9 hat;obtain⟨_,_,_,hat,_⟩:=H10.out.rd.cells;have hfz:=H10.out.rd.free 3;have H11:=ZA H10 HLT8;clear H10;obtain⟨n11,hm⟩:∃ m,m=n8+1:=⟨_,rfl⟩;simp only [← hm] at H11;clear hm;go_wp2_with fail;generalize w10.setCell ⟨c,3,none⟩ (.int .i64 (((n8:Nat):Int)+1))=w11 at *;clear hat hsm hfz;refine iF (F:=.expr) H11 (hid (HA.out j (by have:=HL.out;omega))) (by decide) ⟨rfl,rfl⟩ (fun _ _ h=>⟨rfl,fE.up h⟩) ?_;intro q12 u12 n12 w12 H12;clear H11;go_wp2_with (at_builtin;refine iC rfl _ _ rfl H12 HN.out.ex.fr.size rfl rfl (by have:=HL.out;omega) ?_);intro v13 w13 H13;clear H12;go_wp2_with fail;go_roundg j
       case measure=>omega
       case rel=>exact⟨n12,_,_,by have:=HL.out;simp;omega,H13⟩
      | true =>
       have d4:(E.word (((n8:Nat):Int)+1)==[93])=true:=by rw [show (((n8:Nat):Int)+1)=((n8+1:Nat):Int) from by omega];exact h4
       simp only [h3,h4,Bool.not_true,Bool.and_false,Bool.false_eq_true,if_false] at H8;clear h4;go_wp2_with fail;refine cA H8 ?_;intro w9 H9;clear H8 hat;obtain⟨_,_,_,hat,_⟩:=H9.out.rd.cells;go_wp2_with fail;refine OA H9 _ ?_;intro w10 H10;clear H9 hat hsm;go_wp2_with fail;refine VJ HN (k2:=11) H10 (by have:=HL.out;omega) ?_;intro q11 w11 H11;clear H10 HN;go_wp2_with fail;refine nO H11 ?_;intro n12 b12 w12 hm H12;clear H11;simp only [← hm] at H12;clear hm h3;go_wp2_with fail;refine FA H12 (fun _ _ h=>⟨rfl,fE.up h⟩) ?_;intro n13 w13 H13;clear H12;go_wp2_with fail;refine (eA H13 (by simp)).mono ?_;rintro e wz ⟨rfl,HZ⟩;clear H13;go_wp2_with fail;go_ret;exact fE.mk HZ.out
     | false =>
      have d3:(E.word (n8:Nat)==[44])=false:=h3;simp only [h3,Bool.false_and,Bool.false_eq_true,if_false] at H8;clear h3;go_wp2_with fail;refine cA H8 ?_;intro w9 H9;clear H8 hat hsm;go_wp2_with fail;refine VJ HN (k2:=11) H9 (by have:=HL.out;omega) ?_;intro q11 w11 H11;clear H9 HN;go_wp2_with fail;refine nO H11 ?_;intro n12 b12 w12 hm H12;clear H11;simp only [← hm] at H12;clear hm;go_wp2_with fail;refine FA H12 (fun _ _ h=>⟨rfl,fE.up h⟩) ?_;intro n13 w13 H13;clear H12;go_wp2_with fail;refine (eA H13 (by simp)).mono ?_;rintro e wz ⟨rfl,HZ⟩;clear H13;go_wp2_with fail;go_ret;exact fE.mk HZ.out
end
section
open Go.RowKit
variable {E:Ev}{S:AB}{c n k:Nat}{g:Bool}{w w0 w1 w2:World}{v:Value}{ps:List Nat}{ts:List Tr}{rs:List Nat}{us:List Tr}{T X:R Tr}
theorem gR {p Bn Br fr t0:Nat}{wd:Int}{kv:Value} (H:aB E S) (h:Rd E c n g w) (hO:YC w p 34 wd fr t0 kv) (hbn:w.cell? ⟨Bn,0,none⟩=some (.pointer (some ⟨p,0,none⟩))) (hbr:w.cell? ⟨Br,0,none⟩=some (.pointer (some ⟨c,0,none⟩)))
  (hx:Bn≠c∧Bn≠p∧Br≠c∧Br≠p∧c < p) (hz:E.zo=none∨E.zb≠p) (hne:zM E.toEnv S .call wd n g≠.out) :
  Calls Tryz.prog 243 #[.pointer (some ⟨Bn,0,none⟩),.pointer (some ⟨Br,0,none⟩)] w (mV E c g [c,p] (fun wd' w'=>YC w' p 34 wd' fr t0 kv) (zM E.toEnv S .call wd n g) w):=by
 obtain⟨hx1,hx2,hx3,hx4,hx5⟩:=hx;have HD:=hid H;clear H;have HR:=hid h;have HO:=hid hO;obtain⟨_,hk1,_,_,_⟩:=hO.cells;have hne2:∀ (b:Bool),decide ((0:Int)≤wd)=b→zM E.toEnv S .call wd n g=if b then .bad n else (S.t .expr n g).andThen fun x n1=>if E.is n1 [46,46,46] then .ok (x,(n1:Int)) (n1+1) else .ok (x,wd) n1:=by
  intro b hb;unfold zM;by_cases h0:(0:Int)≤wd
  ·rw [if_pos h0,← hb,decide_eq_true h0];rfl
  ·rw [if_neg h0,← hb,decide_eq_false h0];rfl
 cases d0:decide ((0:Int)≤wd) with
 | true =>
  have hB:=hne2 true d0;rw [if_pos rfl] at hB;have HB:=hid hB;clear hne2 hB hne h hO;go_enter Tryz.func243,Tryz.ntmps243;go_wp2_with fail;refine (VH HR.out).mono ?_;rintro e w' ⟨rfl,rfl⟩;refine⟨rfl,?_⟩;rw [HB.out];exact⟨rfl,⟨g,HR.out⟩,Fr.refl _ _⟩
 | false =>
  have hB:=hne2 false d0;rw [if_neg (by decide)] at hB;have HC:=HD.out.t .expr c n g w (by decide) (DA rfl h.at_) h;cases hc:S.t .expr n g with
  | out=>rw [hc] at hB;exact absurd hB hne
  | bad m =>
   rw [hc] at HC hB;have HC2:=hid (HC (by simp));have HB:=hid hB;clear hne2 hB hne h hO HC hc;go_enter Tryz.func243,Tryz.ntmps243;go_wp2_with fail;refine HC2.out.mono ?_;rintro e w' ⟨rfl,q1,q2⟩;refine⟨rfl,?_⟩;rw [HB.out];exact⟨rfl,q1,q2.weaken (fun i _ hi=>by simp at hi;simp [hi])⟩
  | ok x n1 =>
   rw [hc] at HC hB;have HC2:=hid (HC (by simp));have HB:=hid hB;have hpw:=hO.lt;clear hne2 hB hne h hO HC hc;go_enter Tryz.func243,Tryz.ntmps243;go_wp2_with fail;refine HC2.out.mono ?_;rintro e w1 ⟨q,rfl,q1,q2,q3⟩;have hbn1:=q3.cell (a:=⟨Bn,0,none⟩) (by simpa using hx1) hbn;have hbr1:=q3.cell (a:=⟨Br,0,none⟩) (by simpa using hx3) hbr;have HS:=hid (And.intro q1 (And.intro q2 (And.intro q3 (HO.out.later q3 (by simp;omega)))));clear q1 q2 q3 HC2 hbn hbr hk1;have HNX:=hid (pE HS.out.1);cases h1:E.is n1 [46,46,46] with
   | false =>
    have d1:(E.word (n1:Nat)==[46,46,46])=false:=h1;have hB:=HB.out;simp only [mA,h1,Bool.false_eq_true,if_false] at hB;have HB2:=hid hB;clear hB h1;go_wp2_with fail;refine HNX.out.mono ?_;rintro e w2 ⟨rfl,hb⟩;go_wp2_with fail;go_ret;obtain⟨q1,q2,q3,q4⟩:=HS.out;rw [HB2.out];have hf:=q3.trans (lA c hb);exact⟨q,rfl,q1.below hb,EA.later q2 (lA c hb) (fun i hi=>by simp at hi;subst hi;have:=HR.out.lt;omega) (Nat.le_refl _) hb.size,hf.weaken (fun i _ hi=>by simp at hi;simp [hi]),q4.later (lA c hb) (by simp;omega)⟩
   | true =>
    have d1:(E.word (n1:Nat)==[46,46,46])=true:=h1;have hB:=HB.out;simp only [mA,h1,if_true] at hB;have HB2:=hid hB;have HLT:=hid (gA h1);clear hB h1;go_wp2_with fail;refine HNX.out.mono ?_;rintro e w2 ⟨rfl,hb⟩;obtain⟨q1,q2,q3,q4⟩:=HS.out;have r1:=q1.below hb;have r3:=q3.trans (lA c hb);have r2:EA w2 w.heap.size w2.heap.size q x:=EA.later q2 (lA c hb) (fun i hi=>by simp at hi;subst hi;have:=HR.out.lt;omega) (Nat.le_refl _) hb.size;have r4:=q4.later (lA c hb) (by simp;omega);have hbn2:=aA hb hbn1;have hbr2:=aA hb hbr1;obtain⟨_,_,_,hat,_⟩:=r1.cells;obtain⟨_,hk1,_,_,_⟩:=r4.cells;have hfz:=r4.free 1;have hpc:c≠p:=by omega
    have HT:=hid (And.intro r1 (And.intro r2 (And.intro r3 r4)));clear q1 q2 q3 q4 r1 r2 r3 r4 HS hbn1 hbr1 hb HNX;go_wp2_with fail
    go_region_held3 (fun w'=>w'.cell? ⟨Bn,0,none⟩=some (.pointer (some ⟨p,0,none⟩))∧w'.cell? ⟨Br,0,none⟩=some (.pointer (some ⟨c,0,none⟩))∧w'.cell? ⟨c,3,none⟩=some (.int .i64 (n1:Int)))
     (first|(refine⟨?_,?_,?_⟩;all_goals assumption)|(go_split_ands;refine⟨?_,?_,?_⟩;all_goals exact kH ‹_› ‹_›))
     (first|fail)
    obtain⟨r1,r2,r3,r4⟩:=HT.out;have f1:Fr [p] w2 (w2.setCell ⟨p,1,none⟩ (.int .i64 (n1:Int))).drew:=(NA p 1 w2 _).drew;have s1:Rd E c n1 g (w2.setCell ⟨p,1,none⟩ (.int .i64 (n1:Int))).drew:=r1.later f1 (fun i hi=>by simp at hi;omega) (hz.imp id (fun h m=>h (by simpa using m)));have s4:YC (w2.setCell ⟨p,1,none⟩ (.int .i64 (n1:Int))).drew p 34 (n1:Int) fr t0 kv:=YC.named_ (w:=w2) r4 _;have s2:EA (w2.setCell ⟨p,1,none⟩ (.int .i64 (n1:Int))).drew w.heap.size w2.heap.size q x:=EA.later r2 f1 (fun i hi=>by simp at hi;subst hi;omega) (Nat.le_refl _) (Nat.le_refl _);have s3:Fr [c,p] w (w2.setCell ⟨p,1,none⟩ (.int .i64 (n1:Int))).drew:=(r3.weaken (fun i _ hi=>by simp at hi;simp [hi])).trans (f1.weaken (fun i _ hi=>by simp at hi;simp [hi]));have hsz:(w2.setCell ⟨p,1,none⟩ (.int .i64 (n1:Int))).drew.heap.size=w2.heap.size:=by simp [World.drew]
    obtain⟨_,_,_,hat3,_⟩:=s1.cells;have hfz3:=s1.free 3;have hsm:((n1:Nat):Int)≤1099511627776:=by have:=s1.at_;have:=s1.lie.small;omega
    have hbr3:(w2.setCell ⟨p,1,none⟩ (.int .i64 (n1:Int))).drew.cell? ⟨Br,0,none⟩=some (.pointer (some ⟨c,0,none⟩)):=kH hx4 hbr2;generalize (w2.setCell ⟨p,1,none⟩ (.int .i64 (n1:Int))).drew=w3 at *;have HT:=hid (And.intro s1 (And.intro s2 (And.intro s3 (And.intro s4 hsz))));clear r1 r2 r3 r4 f1 s1 s2 s3 s4 hsz hbn2 hbr2 hat hk1 hfz;go_wp2_with fail;go_ret;obtain⟨s1,s2,s3,s4,hsz⟩:=HT.out;rw [HB2.out];have f2:Fr [c] w3 (w3.setCell ⟨c,3,none⟩ (.int .i64 ((n1:Int)+1))):=NA c 3 w3 _;refine⟨q,rfl,by simpa using s1.moved (n1+1) (by have:=HLT.out;omega),?_,s3.trans (f2.weaken (fun i _ hi=>by simp at hi;simp [hi])),s4.later f2 (by simp;omega)⟩;exact EA.later s2 f2 (fun i hi=>by simp at hi;subst hi;have:=HR.out.lt;omega) (by omega) (by simp;omega)
end
section
open Go.RowKit
variable {E:Ev}{S:AB}{c n k:Nat}{g:Bool}{w w0 w1 w2:World}{v:Value}{ps:List Nat}{ts:List Tr}{rs:List Nat}{us:List Tr}{T X:R Tr}
theorem aU {fr t0 p q:Nat}{x:Tr}{kv:Value} (H:∀ j,j≤k→aB E (kA E.toEnv j)) (hkk:k≤1000000000000) (h:Rd E c n g w) (hnd:Nd E c w0 p 0 (-1) fr t0 kv [q] [x] [] [] w) (hr:bG E.toEnv (kA E.toEnv k) fr x n g≠.out) :
  Calls Tryz.prog 214 #[.pointer (some ⟨c,0,none⟩),.pointer (some ⟨p,0,none⟩)] w (fE E c g (bG E.toEnv (kA E.toEnv k) fr x n g) w0 p):=by
 have HA:=hid H;clear H;have hpw:=hnd.opn.blk.lt;have hcp:c < p:=by have:=hnd.cw;have:=hnd.opn.low;omega
 have hB1:=(Below.refl w.heap.size w).alloc (Nat.le_refl _) (Obj.cells #[.pointer (some ⟨c,0,none⟩)] 54);have hB2:=(Below.refl (w.alloc (.cells #[.pointer (some ⟨c,0,none⟩)] 54)).heap.size (w.alloc (.cells #[.pointer (some ⟨c,0,none⟩)] 54))).alloc (Nat.le_refl _) (Obj.cells #[.pointer (some ⟨p,0,none⟩)] 51);have hbr:=aA hB2 (nE w (.pointer (some ⟨c,0,none⟩)) 54);have hbn:=nE (w.alloc (.cells #[.pointer (some ⟨c,0,none⟩)] 54)) (.pointer (some ⟨p,0,none⟩)) 51;have H0:=Sx.startN h hnd hr rfl
 conv at H0=>arg 1;arg 8;unfold bG
 have H1:=FF (FF H0 (.cells #[.pointer (some ⟨c,0,none⟩)] 54)) (.cells #[.pointer (some ⟨p,0,none⟩)] 51);clear H0;rw [World.size_alloc] at hbn;have hfz:=H1.out.ex.opn.blk.free 0;obtain⟨hk0,_,_,_,_⟩:=H1.out.ex.opn.blk.cells;have hzp:=hnd.z.imp id (fun h=>h.1);have HZP:=hid hzp;clear h hnd hr hB1 hB2 hzp;go_enter Tryz.func214,Tryz.ntmps214;go_upto_region 1 with fail;generalize (w.alloc (.cells #[.pointer (some ⟨c,0,none⟩)] 54)).alloc (.cells #[.pointer (some ⟨p,0,none⟩)] 51)=wB at *;generalize hBr:w.heap.size=Br at *;have H2:Hid (Sx _ _ _ _ _ _ _ _ (wB.setCell ⟨p,0,none⟩ (.int .u8 34))):=dB H1 34;clear H1;have hn1:Br≠p:=by omega
 have hn2:Br+1≠p:=by omega
 have hbr2:=kH (N:=p) (j:=0) (x:=.int .u8 34) (a:=⟨Br,0,none⟩) hn1 hbr;have hbn2:=kH (N:=p) (j:=0) (x:=.int .u8 34) (a:=⟨Br+1,0,none⟩) hn2 hbn;go_wp2_with fail;generalize wB.setCell ⟨p,0,none⟩ (.int .u8 34)=wC at *;clear hfz hk0 hbr hbn;have hh:=H2.out;have hrr:rows E.toEnv (kA E.toEnv k) [40] [44] [41] .call n g≠.out:=fun e=>hh.ne (by rw [hh.eq,e];rfl)
 have hcall:=EO hh.rd k (by omega) 40 44 41 [] [] [] .call 243 #[] #[.pointer (some ⟨Br+1,0,none⟩),.pointer (some ⟨Br,0,none⟩)] (fun _=>cF (by kernel_rfl) _ _) [c,p]
  (fun i hi=>by have:=hh.rd.lt;have:=hh.ex.opn.blk.lt;simp at hi;omega) (by simp) (fun wd w'=>YC w' p 34 wd fr t0 kv)
  (fun wd a b s hs hb=>by unfold YC at s ⊢;rw [hb p hh.ex.opn.blk.lt (by omega)];exact s) hh.ex.opn.blk
  (fun j n1 word w1 hj hR hF hS hne=>gR (HA.out j (by omega)) hR hS (hF.cell (a:=⟨Br+1,0,none⟩) (by simp;omega) hbn2) (hF.cell (a:=⟨Br,0,none⟩) (by simp;omega) hbr2) ⟨by omega,by omega,by omega,by omega,hcp⟩ HZP.out hne) hrr
 have HC:=hid hcall;have HF:=hid (And.intro hcp (And.intro hpw hBr));clear hcall hh hn1 hn2;have HB:=hid (And.intro hbr2 hbn2);refine HC.out.mono ?_;intro e w' hA;clear HC;have hh:=H2.out;cases hc:rows E.toEnv (kA E.toEnv k) [40] [44] [41] .call n g with
 | out=>exact absurd hc hrr
 | bad m =>
  rw [hc] at hA hh;obtain⟨rfl,q1,q2⟩:=hA;refine⟨rfl,fE.up ?_⟩;rw [hh.eq];exact⟨rfl,q1,hh.fr.trans' q2 (fun i hi=>by have:=hh.ex.opn.low;simp at hi;rcases hi with e|e;exact .inl (by simp [e]);exact .inr (by omega))⟩
 | ok u n1 =>
  rw [hc] at hA;have H3:=H2;rw [hc] at H3;obtain⟨va,rs,rfl,q1,q2,q3,q4,q5⟩:=hA;simp only [mA] at H3;have H4:=oD H3 u.2;clear H3;have hsz:(wC.setCell ⟨p,1,none⟩ (.int .i64 u.2)).heap.size=wC.heap.size:=by simp
  have f1:Fr [c] (wC.setCell ⟨p,1,none⟩ (.int .i64 u.2)) w':=by
   refine⟨q3.os,q3.tape,q3.output,by rw [hsz];exact q3.size,fun i hi hx=>?_⟩;by_cases hip:i=p
   ·subst hip;have a1:w'.heap[i]?=_:=q4;have a2:(wC.setCell ⟨i,1,none⟩ (.int .i64 u.2)).heap[i]?=_:=H4.out.ex.opn.blk;rw [a1,a2]
   ·rw [q3.block i (by rw [← hsz];exact hi) (by simp at hx;simp;omega)];exact ((NA p 1 wC (.int .i64 u.2)).block i (by rw [← hsz];exact hi) (by simpa using hip)).symm
  have hD:∀ b,NI wC va w' b→NI (wC.setCell ⟨p,1,none⟩ (.int .i64 u.2)) va w' b:=fun b hb=>⟨by rw [hsz];exact hb.1,hb.2⟩
  have H5:Hid (Sx E c n1 g w0 (Rw E c (wC.setCell ⟨p,1,none⟩ (.int .i64 u.2)) va rs u.1 [] []) _ _ w') :=
   (H4.out.step f1 q1 rfl).with ⟨f1,by rw [hsz];exact hh.rd.lt,by rw [hsz];exact q2.1,fA.kept (fun _ _=>rfl) hD _ _ q2.2,trivial,hh.rd.zlt.imp id (fun h e=>by have:=(q2.1.lt _ e).1;omega)⟩ Rw.later
  have hbr3:=q3.cell (a:=⟨Br,0,none⟩) (by have:=HF.out;simp;omega) HB.out.1;have hbn3:=q3.cell (a:=⟨Br+1,0,none⟩) (by have:=HF.out;simp;omega) HB.out.2;generalize wC.setCell ⟨p,1,none⟩ (.int .i64 u.2)=wV at *;have HL:Hid (rs.length≤1099511627776):=hid (by omega);have HX3:=hid (And.intro hbr3 hbn3);have hcw:=H5.out.cw;have HN3:=hid (And.intro (show Br≠c by have:=HF.out;omega) (show Br+1≠c by have:=HF.out;omega));clear hh q1 q2 q3 q4 q5 hsz f1 hD hc hrr H2 HB hbr2 hbn2 hcw;obtain⟨u1,u2⟩:=u;simp only [] at H4 H5;have H6:=H5;clear H5;obtain⟨hbr3,hbn3⟩:=HX3.out;go_wp2_with fail;refine (XN H6.out.rd 11 H6.out.ex HL.out).mono ?_;rintro e w7 ⟨q7,rfl,b1,b2,b3⟩;have H7:Hid (Sx E c n1 g w0 (Nd E c w0 p 34 u2 fr t0 kv [q] [x] ([]++[q7]) ([]++[xC 11 u1 n1])) _ _ w7) :=
   ⟨b1,H6.out.fr.trans (lA c b3),H6.out.cw,H4.out.ex.kid (H6.out.ex.fr.trans (lA c b3)) b2,Nd.later,H6.out.eq,H6.out.ne⟩
  have hbr7:=aA b3 hbr3;have hbn7:=aA b3 hbn3;clear b1 b2 b3 H6 H4 hbr3 hbn3 HX3;go_wp2_with fail;refine (NH H7.out.rd 41 []).mono ?_;intro e w8 hD;have hh:=H7.out;cases h1:want E.toEnv [41] n1 with
  | out=>rw [h1] at hD;exact hD.elim
  | bad m =>
   rw [h1] at hD hh;obtain⟨rfl,d1,d2⟩:=hD;exact⟨rfl,fE.up (hh.bad rfl d1 d2)⟩
  | ok u8 n8 =>
   rw [h1] at hD hh;obtain⟨rfl,d1,d2⟩:=hD;have H8:=hid (hh.step d2 d1 rfl);have hbr8:=d2.cell (a:=⟨Br,0,none⟩) (by have:=HN3.out.1;simpa using this) hbr7;have hbn8:=d2.cell (a:=⟨Br+1,0,none⟩) (by have:=HN3.out.2;simpa using this) hbn7;simp only [mA] at H8;clear d1 d2 hh H7 hbr7 hbn7 h1;go_wp2_with fail;refine (eA H8 (by simp)).mono ?_;rintro e wz ⟨rfl,HZ⟩;clear H8 hbr8 hbn8;go_wp2_with fail;go_ret;exact fE.mk HZ.out
end
section
open Go.RowKit
variable {E:Ev}{S:AB}{c n k:Nat}{g:Bool}{w w0 w1 w2:World}{v:Value}{ps:List Nat}{ts:List Tr}{rs:List Nat}{us:List Tr}{T X:R Tr}
theorem xN (k:UInt8):((k.toNat:Int)==26)=(k==26):=by
 rw [Bool.eq_iff_iff,beq_iff_eq,beq_iff_eq,← UInt8.toNat_inj]
 show _↔k.toNat=26
 omega
theorem DX (k:UInt8):((k.toNat:Int)==29)=(k==29):=by
 rw [Bool.eq_iff_iff,beq_iff_eq,beq_iff_eq,← UInt8.toNat_inj]
 show _↔k.toNat=29
 omega
theorem RX (k:UInt8):((k.toNat:Int)==30)=(k==30):=by
 rw [Bool.eq_iff_iff,beq_iff_eq,beq_iff_eq,← UInt8.toNat_inj]
 show _↔k.toNat=30
 omega
theorem MS (k:UInt8):((k.toNat:Int)==33)=(k==33):=by
 rw [Bool.eq_iff_iff,beq_iff_eq,beq_iff_eq,← UInt8.toNat_inj]
 show _↔k.toNat=33
 omega
theorem JX (k:UInt8):((k.toNat:Int)==41)=(k==41):=by
 rw [Bool.eq_iff_iff,beq_iff_eq,beq_iff_eq,← UInt8.toNat_inj]
 show _↔k.toNat=41
 omega
theorem LX (k:UInt8):((k.toNat:Int)==42)=(k==42):=by
 rw [Bool.eq_iff_iff,beq_iff_eq,beq_iff_eq,← UInt8.toNat_inj]
 show _↔k.toNat=42
 omega
theorem OX (k:UInt8):((k.toNat:Int)==43)=(k==43):=by
 rw [Bool.eq_iff_iff,beq_iff_eq,beq_iff_eq,← UInt8.toNat_inj]
 show _↔k.toNat=43
 omega
theorem QX (k:UInt8):((k.toNat:Int)==44)=(k==44):=by
 rw [Bool.eq_iff_iff,beq_iff_eq,beq_iff_eq,← UInt8.toNat_inj]
 show _↔k.toNat=44
 omega
theorem EX (k:UInt8):((k.toNat:Int)==47)=(k==47):=by
 rw [Bool.eq_iff_iff,beq_iff_eq,beq_iff_eq,← UInt8.toNat_inj]
 show _↔k.toNat=47
 omega
theorem gS (k:UInt8):((k.toNat:Int)==50)=(k==50):=by
 rw [Bool.eq_iff_iff,beq_iff_eq,beq_iff_eq,← UInt8.toNat_inj]
 show _↔k.toNat=50
 omega
theorem qV (k:UInt8):((k.toNat:Int)==53)=(k==53):=by
 rw [Bool.eq_iff_iff,beq_iff_eq,beq_iff_eq,← UInt8.toNat_inj]
 show _↔k.toNat=53
 omega
theorem Sh.two {u:Tr} (h:Sh u) (hk:okN u.kind u.kids.length=okN 30 u.kids.length):∃ a b,u.kids=[a,b]:=by
 have ha:=h.arity;rw [hk] at ha
 match hu:u.kids with
 | []=>rw [hu] at ha;exact absurd ha (by show ¬ okN 30 0=true;decide)
 | [_]=>rw [hu] at ha;exact absurd ha (by show ¬ okN 30 1=true;decide)
 | [a,b]=>exact⟨a,b,rfl⟩
 | a::b::d::r=>rw [hu] at ha;exact absurd ha (by show ¬ okN 30 (r.length+3)=true;simp [okN,show arT 30=(2,false) from rfl])
theorem Sh.one {u:Tr} (h:Sh u) (hk:okN u.kind u.kids.length=okN 50 u.kids.length):∃ a,u.kids=[a]:=by
 have ha:=h.arity;rw [hk] at ha
 match hu:u.kids with
 | []=>rw [hu] at ha;exact absurd ha (by show ¬ okN 50 0=true;decide)
 | [a]=>exact⟨a,rfl⟩
 | a::b::r=>rw [hu] at ha;exact absurd ha (by show ¬ okN 50 (r.length+2)=true;simp [okN,show arT 50=(1,false) from rfl])
theorem nN {D:Nat→Prop}{q:Nat}{u:Tr} (h:nA w D q u) (hs:Sh u):Calls Tryz.prog 245 #[.pointer (some ⟨q,0,none⟩)] w fun e w'=>e=.returned (.bool (plain u))∧w=w':=by
 obtain⟨_,h0,_,_,_,_⟩:=nA.cells h;cases a:(u.kind==26) with
 | true =>
  have d1:((u.kind.toNat:Int)==26)=true:=by rw [xN];exact a
  have hp:plain u=true:=by unfold plain;rw [a];rfl
  have HP:=hid hp;clear hp a hs h;go_enter Tryz.func245,Tryz.ntmps245;go_wp2_with fail
  all_goals (go_ret;exact⟨by rw [HP.out];rfl,rfl⟩)
 | false =>
  have d1:((u.kind.toNat:Int)==26)=false:=by rw [xN];exact a
  cases b:(u.kind==29) with
  | false =>
   have d2:((u.kind.toNat:Int)==29)=false:=by rw [DX];exact b
   have hp:plain u=false:=by unfold plain;rw [a,b];rfl
   have HP:=hid hp;clear hp a b hs h;go_enter Tryz.func245,Tryz.ntmps245;go_wp2_with fail
   all_goals (go_ret;exact⟨by rw [HP.out];rfl,rfl⟩)
  | true =>
   have d2:((u.kind.toNat:Int)==29)=true:=by rw [DX];exact b
   obtain⟨x,y,hk⟩:=Sh.two hs (by rw [eq_of_beq b];rfl);obtain⟨b9,o9,c9,px,k4,k5,ht⟩:=nA.first h hk;obtain⟨_,h1,_,_,_,_⟩:=nA.cells ht;have hp:plain u=(x.kind==26):=by unfold plain;rw [a,b,hk];simp
   cases d:(x.kind==26) with
   | true =>
    have d3:((x.kind.toNat:Int)==26)=true:=by rw [xN];exact d
    have HP:=hid (hp.trans d);clear hp a b d hs h ht hk;go_enter Tryz.func245,Tryz.ntmps245;go_wp2_with fail
    all_goals (go_ret;exact⟨by rw [HP.out];rfl,rfl⟩)
   | false =>
    have d3:((x.kind.toNat:Int)==26)=false:=by rw [xN];exact d
    have HP:=hid (hp.trans d);clear hp a b d hs h ht hk;go_enter Tryz.func245,Tryz.ntmps245;go_wp2_with fail
    all_goals (go_ret;exact⟨by rw [HP.out];rfl,rfl⟩)
theorem XQ {D:Nat→Prop}{q:Nat}{u:Tr} (hr:Rd E c n g w) (h:nA w D q u) (hs:Sh u):Calls Tryz.prog 217 #[.pointer (some ⟨c,0,none⟩),.pointer (some ⟨q,0,none⟩)] w fun e w'=>e=.returned (.bool (filled g u))∧w=w':=by
 obtain⟨_,h0,_,_,_,_⟩:=nA.cells h;obtain⟨_,_,_,_,hg⟩:=hr.cells;have hB:∀ b,filled g u=b→Hid (filled g u=b):=fun _ h=>h
 cases a41:(u.kind==41) with
 | true =>
  have d41:((u.kind.toNat:Int)==41)=true:=by rw [JX];exact a41
  have HP:=hB true (by unfold filled;rw [if_pos (by simp [eq_of_beq a41])]);clear hB hs h hr a41;go_enter Tryz.func217,Tryz.ntmps217;go_wp2_with fail
  all_goals (go_ret;exact⟨by rw [HP.out];rfl,rfl⟩)
 | false =>
  have d41:((u.kind.toNat:Int)==41)=false:=by rw [JX];exact a41
  cases a42:(u.kind==42) with
  | true =>
   have d42:((u.kind.toNat:Int)==42)=true:=by rw [LX];exact a42
   have HP:=hB true (by unfold filled;rw [if_pos (by simp [eq_of_beq a42])]);clear hB hs h hr a41 a42;go_enter Tryz.func217,Tryz.ntmps217;go_wp2_with fail
   all_goals (go_ret;exact⟨by rw [HP.out];rfl,rfl⟩)
  | false =>
   have d42:((u.kind.toNat:Int)==42)=false:=by rw [LX];exact a42
   cases a43:(u.kind==43) with
   | true =>
    have d43:((u.kind.toNat:Int)==43)=true:=by rw [OX];exact a43
    have HP:=hB true (by unfold filled;rw [if_pos (by simp [eq_of_beq a43])]);clear hB hs h hr a41 a42 a43;go_enter Tryz.func217,Tryz.ntmps217;go_wp2_with fail
    all_goals (go_ret;exact⟨by rw [HP.out];rfl,rfl⟩)
   | false =>
    have d43:((u.kind.toNat:Int)==43)=false:=by rw [OX];exact a43
    cases a44:(u.kind==44) with
    | true =>
     have d44:((u.kind.toNat:Int)==44)=true:=by rw [QX];exact a44
     have HP:=hB true (by unfold filled;rw [if_pos (by simp [eq_of_beq a44])]);clear hB hs h hr a41 a42 a43 a44;go_enter Tryz.func217,Tryz.ntmps217;go_wp2_with fail
     all_goals (go_ret;exact⟨by rw [HP.out];rfl,rfl⟩)
    | false =>
     have d44:((u.kind.toNat:Int)==44)=false:=by rw [QX];exact a44
     cases a47:(u.kind==47) with
     | true =>
      have d47:((u.kind.toNat:Int)==47)=true:=by rw [EX];exact a47
      have HP:=hB true (by unfold filled;rw [if_pos (by simp [eq_of_beq a47])]);clear hB hs h hr a41 a42 a43 a44 a47;go_enter Tryz.func217,Tryz.ntmps217;go_wp2_with fail
      all_goals (go_ret;exact⟨by rw [HP.out];rfl,rfl⟩)
     | false =>
      have d47:((u.kind.toNat:Int)==47)=false:=by rw [EX];exact a47
      have hno:¬ (u.kind=41∨u.kind=42∨u.kind=43∨u.kind=44∨u.kind=47):=by
       simp only [beq_eq_false_iff_ne] at a41 a42 a43 a44 a47;simp [a41,a42,a43,a44,a47]
      cases a30:(u.kind==30) with
      | true =>
       have d30:((u.kind.toNat:Int)==30)=true:=by rw [RX];exact a30
       obtain⟨x,y,hk⟩:=Sh.two hs (by rw [eq_of_beq a30]);obtain⟨b9,o9,c9,px,k4,k5,ht⟩:=nA.first h hk;have hf:filled g u=(!g&&plain x):=by unfold filled;rw [if_neg hno];simp only [eq_of_beq a30,hk,if_true]
       have hpl:=nN ht (Shs.mem hs.kids (by rw [hk];simp));obtain⟨bp,hbp⟩:∃ b,plain x=b:=⟨_,rfl⟩;rw [hbp] at hf hpl;have HPL:=hid hpl;cases g with
       | true =>
        have HP:=hB false hf;clear hB hs h hr hf hpl hbp hno a41 a42 a43 a44 a47 a30 ht hk;go_enter Tryz.func217,Tryz.ntmps217;go_wp2_with fail
        all_goals (go_ret;exact⟨by rw [HP.out];rfl,rfl⟩)
       | false =>
        have HP:=hB bp (by rw [hf];simp);clear hB hs h hr hf hpl hbp hno a41 a42 a43 a44 a47 a30 ht hk;go_enter Tryz.func217,Tryz.ntmps217;go_wp2_with fail;refine HPL.out.mono ?_;rintro e w2 ⟨rfl,rfl⟩;cases bp <;> (go_wp2_with fail;go_ret;exact⟨by rw [HP.out];rfl,rfl⟩)
      | false =>
       have d30:((u.kind.toNat:Int)==30)=false:=by rw [RX];exact a30
       have hf:filled g u=(!g&&plain u):=by unfold filled;rw [if_neg hno];simp only [show ¬ u.kind=30 from by simpa using a30,if_false]
       have hpl:=nN h hs;obtain⟨bp,hbp⟩:∃ b,plain u=b:=⟨_,rfl⟩;rw [hbp] at hf hpl;have HPL:=hid hpl;cases g with
       | true =>
        have HP:=hB false hf;clear hB hs h hr hf hpl hbp hno a41 a42 a43 a44 a47 a30;go_enter Tryz.func217,Tryz.ntmps217;go_wp2_with fail
        all_goals (go_ret;exact⟨by rw [HP.out];rfl,rfl⟩)
       | false =>
        have HP:=hB bp (by rw [hf];simp);clear hB hs h hr hf hpl hbp hno a41 a42 a43 a44 a47 a30;go_enter Tryz.func217,Tryz.ntmps217;go_wp2_with fail;refine HPL.out.mono ?_;rintro e w2 ⟨rfl,rfl⟩;cases bp <;> (go_wp2_with fail;go_ret;exact⟨by rw [HP.out];rfl,rfl⟩)
theorem fW {D:Nat→Prop}{q:Nat}{u:Tr} (hr:Rd E c n g w) (h:nA w D q u) (hs:Sh u):Calls Tryz.prog 249 #[.pointer (some ⟨c,0,none⟩),.pointer (some ⟨q,0,none⟩)] w fun e w' =>
  match only u n with|.ok x _=>∃ px,e=.returned (.pointer (some ⟨px,0,none⟩))∧nA w D px x∧w=w'|_=>e=Up n∧w=w':=by
 obtain⟨_,h0,_,_,_,_⟩:=nA.cells h;cases a:(u.kind==50) with
 | false =>
  have d1:((u.kind.toNat:Int)==50)=false:=by rw [gS];exact a
  have d2:((u.kind.toNat:Int) != 50)=true:=by rw [bne,d1];rfl
  have ho:only u n=.bad n:=by unfold only;rw [if_neg (by simpa using a)]
  rw [ho];have HF:=hid (VH hr);clear ho a hs h hr;go_enter Tryz.func249,Tryz.ntmps249;go_wp2_with fail;refine HF.out.mono ?_;rintro e w' ⟨rfl,rfl⟩;exact⟨rfl,rfl,rfl⟩
 | true =>
  have d1:((u.kind.toNat:Int)==50)=true:=by rw [gS];exact a
  have d2:((u.kind.toNat:Int) != 50)=false:=by rw [bne,d1];rfl
  obtain⟨x,hk⟩:=Sh.one hs (by rw [eq_of_beq a]);obtain⟨b9,o9,c9,px,k4,k5,ht⟩:=nA.first h hk;have ho:only u n=.ok x n:=by unfold only;rw [if_pos (eq_of_beq a),hk]
  rw [ho];have HT:=hid ht;clear ho a hs h hr hk ht;go_enter Tryz.func249,Tryz.ntmps249;go_wp2_with fail;go_ret;exact⟨px,rfl,HT.out,rfl⟩
end
end Go.Proofs.YtfmpphplbdojbaaGreatDoor
