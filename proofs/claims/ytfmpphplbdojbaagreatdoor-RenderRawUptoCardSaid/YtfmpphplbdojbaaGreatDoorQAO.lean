import Derived.Test.YtfmpphplbdojbaaGreatDoorQAN
namespace Go.Proofs.YtfmpphplbdojbaaGreatDoor
open Lib(hid)
set_option linter.all false
set_option maxHeartbeats 40000000
set_option maxRecDepth 100000
section
open Go.RowKit
variable {E:Ev}{S:AB}{c n:Nat}{g:Bool}{w:World}
theorem nE (w:World) (v:Value) (t:TypeId):(w.alloc (.cells #[v] t)).cell? ⟨w.heap.size,0,none⟩=some v:=by
 have h:=heap_alloc_new w (Obj.cells #[v] t);unfold World.cell?;rw [h]
 rfl
theorem Ans.fr {r:R Tr}{w0:World}{e:Ending}{w':World} (h:Ans E c g r w0 e w'):Fr [c] w0 w':=by
 cases r with
 | ok t m=>obtain⟨_,_,_,_,h⟩:=h;exact h
 | bad k=>exact h.2.2
 | out=>exact h.elim
variable {k B:Nat}
theorem LN (H:aB E S) (h:Rd E c n g w) (hX:w.cell? ⟨B,0,none⟩=some (.pointer (some ⟨c,0,none⟩))∧c < B) (hr:RD S n g≠.out) :
  Calls Tryz.prog 194 #[.pointer (some ⟨B,0,none⟩)] w (Ans E c g (RD S n g) w):=by
 have HD:=hid H;clear H;have H0:=Sx.start h hr rfl
 conv at H0=>arg 1;arg 8;unfold RD
 have HX:=hid hX;clear hX
 try simp only [bs,reduceCtorEq] at H0
 clear h hr;go_enter Tryz.func194,Tryz.ntmps194;have hbx1:=H0.out.fr.cell (a:=⟨B,0,none⟩) (by have:=HX.out.2;simp;omega) HX.out.1;go_wp2_with fail;clear hbx1;refine yB H0 17 ?_;intro p w2 H3;clear H0;have hbx4:=H3.out.fr.cell (a:=⟨B,0,none⟩) (by have:=HX.out.2;simp;omega) HX.out.1;go_wp2_with fail;clear hbx4;refine jA (F:=.names) H3 HD (by decide) ⟨rfl,rfl⟩ (fun _ _ h=>⟨rfl,h⟩) ?_;intro q7 t8 n6 w5 H9;clear H3;have hbx10:=H9.out.fr.cell (a:=⟨B,0,none⟩) (by have:=HX.out.2;simp;omega) HX.out.1;go_wp2_with fail;have H11:=yC H9;clear H9
 go_region_held (fun w'=>w'.cell? ⟨B,0,none⟩=some (.pointer (some ⟨c,0,none⟩))) (first|(first|assumption|exact aA ((Below.refl _ _).alloc (Nat.le_refl _) _) ‹_›)) (first|(go_at_call 185;refine jA (F:=.union) H11 HD (by decide) ⟨rfl,rfl⟩ (fun _ _ h=>⟨rfl,h⟩) ?_;intro q14 t15 n13 w12 H16;clear H11;have hbx17:=H16.out.fr.cell (a:=⟨B,0,none⟩) (by have:=HX.out.2;simp;omega) HX.out.1)|(go_at_call 113;refine (eA H16 (by simp)).mono ?_;rintro e wz ⟨rfl,HZ⟩;clear H16;have hbx18:=(Ans.fr HZ.out).cell (a:=⟨B,0,none⟩) (by have:=HX.out.2;simp;omega) HX.out.1))
 go_wp2_with fail;go_ret;exact HZ.out
theorem El.tparam (H:∀ j,j≤k→aB E (kA E.toEnv j)) (hX:w.cell? ⟨B,0,none⟩=some (.pointer (some ⟨c,0,none⟩))) (hcB:c < B):El E c g k w .tparam 194 #[] #[.pointer (some ⟨B,0,none⟩)]:=by
 refine⟨fun w1=>cF (by kernel_rfl) _ _,by simp,fun j n1 w1 hj hR hF hr=>?_⟩;cases j with
 | zero=>exact absurd rfl hr
 | succ i=>exact LN (H i (by omega)) hR ⟨hF.cell (a:=⟨B,0,none⟩) (by simp;omega) hX,hcB⟩ hr
theorem iO (H:∀ j,j≤k→aB E (kA E.toEnv j)) (hkk:k≤1099511627776) (h:Rd E c n g w) (hr:XC E.toEnv (kA E.toEnv k) n g≠.out) :
  Calls Tryz.prog 162 #[.pointer (some ⟨c,0,none⟩)] w (Ans E c g (XC E.toEnv (kA E.toEnv k) n g) w):=by
 have HA:=hid H;have HD:=hid (H k (Nat.le_refl _));clear H;have hB:=(Below.refl w.heap.size w).alloc (Nat.le_refl _) (Obj.cells #[.pointer (some ⟨c,0,none⟩)] 54);have hbx:=nE w (.pointer (some ⟨c,0,none⟩)) 54;have HX:=hid (And.intro hbx h.lt);have HFB:=hid (lA c hB);have H0:=Sx.start (h.below hB) hr rfl
 conv at H0=>arg 1;arg 8;unfold XC
 try simp only [bs,reduceCtorEq] at H0
 clear h hr hB;go_enter Tryz.func162,Tryz.ntmps162;go_wp2_with fail;generalize w.alloc (.cells #[.pointer (some ⟨c,0,none⟩)] 54)=wB at *;generalize w.heap.size=B at *;clear hbx;refine yB H0 16 ?_;intro p w1 H2;clear H0;have hbx3:=H2.out.fr.cell (a:=⟨B,0,none⟩) (by have:=HX.out.2;simp;omega) HX.out.1;obtain⟨_,_,_,hat4,_⟩:=H2.out.rd.cells;have hsm5:((n:Nat):Int)≤1099511627776:=by have:=H2.out.rd.at_;have:=H2.out.rd.lie.small;omega
 have hwr:IntKind.i64.wrap (((n:Nat):Int)+1)=((n:Nat):Int)+1:=by simp [IntKind.wrap,IntKind.bits,IntKind.signed];omega
 go_wp2_with fail;have H6:=yC H2;clear H2;cases h7:E.is (n+1) [93] with
 | true =>
  simp only [h7,bs,reduceCtorEq] at H6;have d9:(E.word (((n:Nat):Int)+1)==[93])=true:=by rw [show (((n:Nat):Int)+1)=((n+1:Nat):Int) from by omega];exact h7
  go_region_held3 (fun w'=>w'.cell? ⟨B,0,none⟩=some (.pointer (some ⟨c,0,none⟩))∧w'.cell? ⟨c,3,none⟩=some (.int .i64 ((n:Nat):Int))) (first|(refine⟨?_,?_⟩;all_goals (first|assumption|exact aA ((Below.refl _ _).alloc (Nat.le_refl _) _) ‹_›))|(go_split_ands;refine⟨?_,?_⟩;all_goals (first|assumption|exact aA ((Below.refl _ _).alloc (Nat.le_refl _) _) ‹_›))) (first|(go_at_call 29;refine OA H6 _ ?_;intro w8 H10;clear H6;have hbx11:=H10.out.fr.cell (a:=⟨B,0,none⟩) (by have:=HX.out.2;simp;omega) HX.out.1;obtain⟨_,_,_,hat12,_⟩:=H10.out.rd.cells))
  have HLTh7:Hid (n < E.l.length):=hid (by have:=gA h7;omega);have HYh7:=hid h7;clear h7;have hbx13:=H10.out.fr.cell (a:=⟨B,0,none⟩) (by have:=HX.out.2;simp;omega) HX.out.1;obtain⟨_,_,_,hat16,_⟩:=H10.out.rd.cells;have hsm17:((n:Nat):Int)≤1099511627776:=by have:=H10.out.rd.at_;have:=H10.out.rd.lie.small;omega
  have hfz15:=H10.out.rd.free 3;have H14:=ZA H10 HLTh7;clear H10;obtain⟨n18,hm⟩:∃ m,m=n+1:=⟨_,rfl⟩;simp only [← hm] at H14;have HMn18:=hid hm;clear hm;have hbx20:=H14.out.fr.cell (a:=⟨B,0,none⟩) (by have:=HX.out.2;simp;omega) HX.out.1;go_wp2_with fail;generalize (w8.setCell ⟨c,3,none⟩ (.int .i64 (((n:Nat):Int)+1)))=w19 at *;clear hbx13 hat16 hsm17 hfz15 hbx20
  try simp only [show (((n:Nat):Int)+1)=((n18:Nat):Int) from by have:=HMn18.out;omega] at H14
  exact rG H14 (fun _ _ h=>⟨rfl,h.behind HFB.out⟩)
 | false =>
  simp only [h7,bs,reduceCtorEq] at H6;have d22:(E.word (((n:Nat):Int)+1)==[93])=false:=by rw [show (((n:Nat):Int)+1)=((n+1:Nat):Int) from by omega];exact h7
  go_region_held3 (fun w'=>w'.cell? ⟨B,0,none⟩=some (.pointer (some ⟨c,0,none⟩))∧w'.cell? ⟨c,3,none⟩=some (.int .i64 ((n:Nat):Int))) (first|(refine⟨?_,?_⟩;all_goals (first|assumption|exact aA ((Below.refl _ _).alloc (Nat.le_refl _) _) ‹_›))|(go_split_ands;refine⟨?_,?_⟩;all_goals (first|assumption|exact aA ((Below.refl _ _).alloc (Nat.le_refl _) _) ‹_›))) (first|(go_at_call 29;refine OA H6 _ ?_;intro w21 H23;clear H6;have hbx24:=H23.out.fr.cell (a:=⟨B,0,none⟩) (by have:=HX.out.2;simp;omega) HX.out.1;obtain⟨_,_,_,hat25,_⟩:=H23.out.rd.cells))
  clear h7;have hbx26:=H23.out.fr.cell (a:=⟨B,0,none⟩) (by have:=HX.out.2;simp;omega) HX.out.1;go_wp2_with fail;clear hbx26;refine xG H23 hkk (El.tparam HA.out (H23.out.fr.cell (a:=⟨B,0,none⟩) (by have:=HX.out.2;simp;omega) HX.out.1) HX.out.2) (fun _ _ h=>⟨rfl,h.behind HFB.out⟩) ?_;intro v29 r30 t31 n28 w27 hl H32;have HLH32:=hid (Nat.le_trans hl hkk);clear hl;have hbx33:=H32.out.fr.cell (a:=⟨B,0,none⟩) (by have:=HX.out.2;simp;omega) HX.out.1;go_wp2_with fail;clear hbx33;refine FA H32 (fun _ _ h=>⟨rfl,h.behind HFB.out⟩) ?_;intro n35 w34 H36;clear H32;have hbx37:=H36.out.fr.cell (a:=⟨B,0,none⟩) (by have:=HX.out.2;simp;omega) HX.out.1;go_wp2_with fail;clear hbx37;refine (NG H23 H36 (by have:=HLH32.out;simp;omega)).mono ?_;rintro e wz ⟨rfl,HA⟩;clear H36;go_wp2_with fail;go_ret;exact HA.out.behind HFB.out
end
section
open Go.RowKit
variable {E:Ev}{S:AB}{c n:Nat}{g:Bool}{w:World}
variable {k B:Nat}
theorem nS (h:Rd E c n g w) (f:FuncId) (cap:Array Value) (hcf:∀ w1,Sem.run Tryz.prog (callFunc f (#[]++cap)) w1=.ok (.enter f (#[]++cap)) w1) {r:R Tr}
  (H:∀ w1,Rd E c n false w1→Fr [c] w w1→Calls Tryz.prog f (#[]++cap) w1 (Ans E c false r w1)) :
  Calls Tryz.prog 102 #[.pointer (some ⟨c,0,none⟩),.func (.func f) #[] cap] w (Ans E c g r w) :=
 (GG h f #[] cap hcf r (fun _=>True) w (Fr.refl _ _) h.lt (fun w1 hR hF=>(H w1 hR hF).mono (fun e w' hA=>⟨fun _ _=>trivial,hA.behind hF⟩))).mono (fun e w' hA=>hA.2)
theorem iL (H:∀ j,j≤k→aB E (kA E.toEnv j)) (hkk:k≤1099511627776) (h:Rd E c n false w) (hX:w.cell? ⟨B,0,none⟩=some (.pointer (some ⟨c,0,none⟩))∧c < B) (hr:OB E.toEnv (kA E.toEnv k) n≠.out) :
  Calls Tryz.prog 246 #[.pointer (some ⟨B,0,none⟩)] w (Ans E c false (OB E.toEnv (kA E.toEnv k) n) w):=by
 have HA:=hid H;have HD:=hid (H k (Nat.le_refl _));clear H;have H0:=Sx.start h hr rfl
 conv at H0=>arg 1;arg 8;unfold OB
 have HX:=hid hX;clear hX
 try simp only [bs,reduceCtorEq] at H0
 clear h hr;go_enter Tryz.func246,Tryz.ntmps246;have hbx1:=H0.out.fr.cell (a:=⟨B,0,none⟩) (by have:=HX.out.2;simp;omega) HX.out.1;go_wp2_with fail;have H2:=yC H0;clear H0
 go_region_held (fun w'=>w'.cell? ⟨B,0,none⟩=some (.pointer (some ⟨c,0,none⟩))) (first|(first|assumption|exact aA ((Below.refl _ _).alloc (Nat.le_refl _) _) ‹_›)) (first|(go_at_call 160;refine xG H2 hkk (El.meth HA.out .element (by decide) (by simp) (by kernel_rfl)) (fun _ _ h=>⟨rfl,h⟩) ?_;intro v5 r6 t7 n4 w3 hl H8;have HLH8:=hid (Nat.le_trans hl hkk);clear hl;have hbx9:=H8.out.fr.cell (a:=⟨B,0,none⟩) (by have:=HX.out.2;simp;omega) HX.out.1)|(go_at_call 111;refine LE (k2:=12) H8 (by have:=HLH8.out;simpa using this) ?_;intro q11 w10 H12;clear H8;have hbx13:=H12.out.fr.cell (a:=⟨B,0,none⟩) (by have:=HX.out.2;simp;omega) HX.out.1))
 have hbx14:=H12.out.fr.cell (a:=⟨B,0,none⟩) (by have:=HX.out.2;simp;omega) HX.out.1;go_wp2_with fail;clear hbx14;refine FA H12 (fun _ _ h=>⟨rfl,h⟩) ?_;intro n16 w15 H17;clear H12;have hbx18:=H17.out.fr.cell (a:=⟨B,0,none⟩) (by have:=HX.out.2;simp;omega) HX.out.1;go_wp2_with fail;clear hbx18;go_ret;exact (RE (rs:=[]) (us:=[]) H17 H2.out.fr.size)
theorem EM (H:∀ j,j≤k→aB E (kA E.toEnv j)) (hkk:k≤1099511627776) (h:Rd E c n g w) (hr:OB E.toEnv (kA E.toEnv k) n≠.out) :
  Calls Tryz.prog 218 #[.pointer (some ⟨c,0,none⟩)] w (Ans E c g (OB E.toEnv (kA E.toEnv k) n) w):=by
 have HA:=hid H;have HD:=hid (H k (Nat.le_refl _));clear H;have hB:=(Below.refl w.heap.size w).alloc (Nat.le_refl _) (Obj.cells #[.pointer (some ⟨c,0,none⟩)] 54);have hbx:=nE w (.pointer (some ⟨c,0,none⟩)) 54;have HX:=hid (And.intro hbx h.lt);have HFB:=hid (lA c hB);have H0:=Sx.start (h.below hB) hr rfl
 skip
 try simp only [bs,reduceCtorEq] at H0
 clear h hr hB;go_enter Tryz.func218,Tryz.ntmps218;go_wp2_with fail;generalize w.alloc (.cells #[.pointer (some ⟨c,0,none⟩)] 54)=wB at *;generalize w.heap.size=B at *;clear hbx;refine pG H0 (fun hr=>nS H0.out.rd 246 #[.pointer (some ⟨B,0,none⟩)] (fun _=>cF (by kernel_rfl) _ _) (fun w1 hR hF=>iL HA.out hkk hR ⟨hF.cell (a:=⟨B,0,none⟩) (by have:=HX.out.2;simp;omega) (H0.out.fr.cell (a:=⟨B,0,none⟩) (by have:=HX.out.2;simp;omega) HX.out.1),HX.out.2⟩ hr)) (fun _ _ h=>⟨rfl,h.behind HFB.out⟩) ?_;intro q wz HA;clear H0;go_wp2_with fail;go_ret;exact HA.out.behind HFB.out
end
end Go.Proofs.YtfmpphplbdojbaaGreatDoor
