import Derived.Test.YtfmpphplbdojbaaGreatDoorQAH
import Derived.Test.YtfmpphplbdojbaaGreatDoorQAN
import Derived.Test.YtfmpphplbdojbaaGreatDoorQAR
namespace Go.Proofs.YtfmpphplbdojbaaGreatDoor
open Lib(hid)
set_option linter.all false
set_option maxHeartbeats 40000000
set_option maxRecDepth 100000
section
open Go.RowKit
variable {E:Ev}{S:AB}{c n:Nat}{g:Bool}{w:World}
set_option maxRecDepth 100000
set_option maxHeartbeats 40000000
theorem fI (h:Rd E c n g w) :
  Calls Tryz.prog 188 #[.pointer (some ⟨c,0,none⟩)] w (xF E c n g (.bool (quiet E.toEnv n)) w):=by
 have H:=Sx.start (T:=bR (quiet E.toEnv n)) h QL rfl
 conv at H=>arg 1;arg 8;unfold quiet
 try simp only [bs,reduceCtorEq] at H
 clear h;go_enter Tryz.func188,Tryz.ntmps188;exact dr
theorem jK (h:Rd E c n g w) :
  Calls Tryz.prog 192 #[.pointer (some ⟨c,0,none⟩)] w (xF E c n g (.bool (generic E.toEnv n)) w):=by
 have H:=Sx.start (T:=bR (generic E.toEnv n)) h QL rfl
 conv at H=>arg 1;arg 8;unfold generic
 try simp only [bs,reduceCtorEq] at H
 clear h;go_enter Tryz.func192,Tryz.ntmps192;exact dr
theorem fL (h:Rd E c n g w) (hr:zH E.toEnv n≠.out) :
  Calls Tryz.prog 182 #[.pointer (some ⟨c,0,none⟩)] w (Ans E c g (zH E.toEnv n) w):=by
 have H:=Sx.start h hr rfl
 conv at H=>arg 1;arg 8;unfold zH
 try simp only [bs,reduceCtorEq] at H
 clear h hr;go_enter Tryz.func182,Tryz.ntmps182;exact dr
theorem bJ (H:aB E S) (h:Rd E c n g w) (hr:mC E.toEnv S true n g≠.out) :
  Calls Tryz.prog 190 #[.pointer (some ⟨c,0,none⟩),.bool true] w (Ans E c g (mC E.toEnv S true n g) w):=by
 have HD:=hid H;clear H;have H:=Sx.start h hr rfl
 conv at H=>arg 1;arg 8;unfold mC
 try simp only [bs,reduceCtorEq] at H
 clear h hr;go_enter Tryz.func190,Tryz.ntmps190;exact dr
theorem PJ (H:aB E S) (h:Rd E c n g w) (hr:mC E.toEnv S false n g≠.out) :
  Calls Tryz.prog 190 #[.pointer (some ⟨c,0,none⟩),.bool false] w (Ans E c g (mC E.toEnv S false n g) w):=by
 have HD:=hid H;clear H;have H:=Sx.start h hr rfl
 conv at H=>arg 1;arg 8;unfold mC
 try simp only [bs,reduceCtorEq] at H
 clear h hr;go_enter Tryz.func190,Tryz.ntmps190;exact dr
theorem UL (H:aB E S) (h:Rd E c n g w) (hr:IB E.toEnv S n g≠.out) :
  Calls Tryz.prog 156 #[.pointer (some ⟨c,0,none⟩)] w (Ans E c g (IB E.toEnv S n g) w):=by
 have HD:=hid H;clear H;have H:=Sx.start h hr rfl
 conv at H=>arg 1;arg 8;unfold IB
 try simp only [bs,reduceCtorEq] at H
 have KO:Kd 6 6:=rfl;have C1:=@PJ;clear h hr;go_enter Tryz.func156,Tryz.ntmps156;exact dr
theorem wL (H:aB E S) (h:Rd E c n g w) (hr:LB E.toEnv S n g≠.out) :
  Calls Tryz.prog 158 #[.pointer (some ⟨c,0,none⟩)] w (Ans E c g (LB E.toEnv S n g) w):=by
 have HD:=hid H;clear H;have H:=Sx.start h hr rfl
 conv at H=>arg 1;arg 8;unfold LB
 try simp only [bs,reduceCtorEq] at H
 have KO:Kd 6 6:=rfl;have C1:=@bJ;clear h hr;go_enter Tryz.func158,Tryz.ntmps158;exact dr
theorem EK (h:Rd E c n g w) (hr:uB E.toEnv n≠.out) :
  Calls Tryz.prog 157 #[.pointer (some ⟨c,0,none⟩)] w (Ans E c g (uB E.toEnv n) w):=by
 have H:=Sx.start h hr rfl
 conv at H=>arg 1;arg 8;unfold uB
 try simp only [bs,reduceCtorEq] at H
 have KO:Kd 5 5:=rfl;clear h hr;go_enter Tryz.func157,Tryz.ntmps157;exact dr
theorem wM (H:aB E S) (h:Rd E c n g w) (hn:n < E.l.length) (hr:lC S n g≠.out) :
  Calls Tryz.prog 219 #[.pointer (some ⟨c,0,none⟩)] w (Ans E c g (lC S n g) w):=by
 have L:=hid hn;clear hn;have HD:=hid H;clear H;have H:=Sx.start h hr rfl
 conv at H=>arg 1;arg 8;unfold lC
 try simp only [bs,reduceCtorEq] at H
 have KO:Kd 68 68:=rfl;clear h hr;go_enter Tryz.func219,Tryz.ntmps219;exact dr
theorem rO (H:aB E S) (h:Rd E c n g w) (hn:n < E.l.length) (hr:aD E.toEnv S n g≠.out) :
  Calls Tryz.prog 220 #[.pointer (some ⟨c,0,none⟩)] w (Ans E c g (aD E.toEnv S n g) w):=by
 have L:=hid hn;clear hn;have HD:=hid H;clear H;have H:=Sx.start h hr rfl
 conv at H=>arg 1;arg 8;unfold aD
 try simp only [bs,reduceCtorEq] at H
 have KO:Kd 54 54:=rfl;have K1:Kd 55 55:=rfl;clear h hr;go_enter Tryz.func220,Tryz.ntmps220;exact dr
theorem DM (H:aB E S) (h:Rd E c n g w) (hn:n < E.l.length) (hr:oC E.toEnv S n g≠.out) :
  Calls Tryz.prog 221 #[.pointer (some ⟨c,0,none⟩)] w (Ans E c g (oC E.toEnv S n g) w):=by
 have L:=hid hn;clear hn;have HD:=hid H;clear H;have H:=Sx.start h hr rfl
 conv at H=>arg 1;arg 8;unfold oC
 try simp only [bs,reduceCtorEq] at H
 have KO:Kd 56 56:=rfl;clear h hr;go_enter Tryz.func221,Tryz.ntmps221;exact dr
theorem tR (H:aB E S) (h:Rd E c n g w) (hr:EE E.toEnv S n g≠.out) :
  Calls Tryz.prog 163 #[.pointer (some ⟨c,0,none⟩)] w (Ans E c g (EE E.toEnv S n g) w):=by
 have HD:=hid H;clear H;have H:=Sx.start h hr rfl
 conv at H=>arg 1;arg 8;unfold EE
 try simp only [bs,reduceCtorEq] at H
 have KO:Kd 58 58:=rfl;clear h hr;go_enter Tryz.func163,Tryz.ntmps163;exact dr
theorem bT (H:aB E S) (h:Rd E c n g w) (hr:kG E.toEnv S n g≠.out) :
  Calls Tryz.prog 149 #[.pointer (some ⟨c,0,none⟩)] w (Ans E c g (kG E.toEnv S n g) w):=by
 have HD:=hid H;clear H;have H:=Sx.start h hr rfl
 conv at H=>arg 1;arg 8;unfold kG
 try simp only [bs,reduceCtorEq] at H
 have KO:Kd 24 24:=rfl;clear h hr;go_enter Tryz.func149,Tryz.ntmps149;exact dr
theorem NR (H:aB E S) (h:Rd E c n g w) (hr:QE E.toEnv S n g≠.out) :
  Calls Tryz.prog 263 #[.pointer (some ⟨c,0,none⟩)] w (Ans E c g (QE E.toEnv S n g) w):=by
 have HD:=hid H;clear H;have H:=Sx.start h hr rfl
 conv at H=>arg 1;arg 8;unfold QE
 try simp only [bs,reduceCtorEq] at H
 have KO:Kd 39 39:=rfl;clear h hr;go_enter Tryz.func263,Tryz.ntmps263;exact dr
theorem gO (H:aB E S) (h:Rd E c n g w) (hr:QC E.toEnv S n g≠.out) :
  Calls Tryz.prog 247 #[.pointer (some ⟨c,0,none⟩)] w (Ans E c g (QC E.toEnv S n g) w):=by
 have HD:=hid H;clear H;have H:=Sx.start h hr rfl
 conv at H=>arg 1;arg 8;unfold QC
 try simp only [bs,reduceCtorEq] at H
 have KO:Kd 38 38:=rfl;clear h hr;go_enter Tryz.func247,Tryz.ntmps247;exact dr
theorem YW (H:aB E S) (h:Rd E c n g w) (hr:fnB E.toEnv S n g≠.out) :
  Calls Tryz.prog 112 #[.pointer (some ⟨c,0,none⟩)] w (Ans E c g (fnB E.toEnv S n g) w):=by
 have HD:=hid H;clear H;have H:=Sx.start h hr rfl
 conv at H=>arg 1;arg 8;unfold fnB
 try simp only [bs,reduceCtorEq] at H
 have KO:Kd 8 8:=rfl;clear h hr;go_enter Tryz.func112,Tryz.ntmps112;exact dr
theorem mM (H:aB E S) (h:Rd E c n g w) (hr:NB E.toEnv S n g≠.out) :
  Calls Tryz.prog 146 #[.pointer (some ⟨c,0,none⟩)] w (Ans E c g (NB E.toEnv S n g) w):=by
 have HD:=hid H;clear H;have H:=Sx.start h hr rfl
 conv at H=>arg 1;arg 8;unfold NB GO
 try simp only [bs,reduceCtorEq] at H
 have KO:Kd 9 9:=rfl;clear h hr;go_enter Tryz.func146,Tryz.ntmps146;exact dr
theorem qM (H:aB E S) (h:Rd E c n g w) (hr:rC E.toEnv S n g≠.out) :
  Calls Tryz.prog 159 #[.pointer (some ⟨c,0,none⟩)] w (Ans E c g (rC E.toEnv S n g) w):=by
 have HD:=hid H;clear H;have H:=Sx.start h hr rfl
 conv at H=>arg 1;arg 8;unfold rC PB
 try simp only [bs,reduceCtorEq] at H
 have KO:Kd 7 7:=rfl;clear h hr;go_enter Tryz.func159,Tryz.ntmps159;exact dr
end
section
open Go.RowKit
variable {E:Ev}{S:AB}{c n:Nat}{g:Bool}{w:World}
variable {k B p q fr t0:Nat}{w0:World}{x:Tr}{kv:Value}
theorem iE (h:Rd E c n g w) (hX:w.cell? ⟨B,0,none⟩=some (.pointer (some ⟨c,0,none⟩))/\c < B) (i:Int) :
  Calls Tryz.prog 209 #[.int .i64 i,.pointer (some ⟨B,0,none⟩)] w (xF E c n g (.bool (rK E.toEnv i)) w):=by
 have H0:=Sx.start (T:=bR (rK E.toEnv i)) h QL rfl
 conv at H0=>arg 1;arg 8;unfold rK
 have HX:=hid hX;clear hX
 try simp only [bs,reduceCtorEq] at H0
 clear h;go_enter Tryz.func209,Tryz.ntmps209;have hbx2:=H0.out.fr.cell (a:=⟨B,0,none⟩) Cg HX.out.1;go_wp2_with fail;clear hbx2;cases h1:E.quoted i with
 | true =>
  simp only [h1,bs,reduceCtorEq] at H0;refine kB H0 Gd ?_;intro w3 H4;clear H0;have HYh1:=hid h1;clear h1;have hbx5:=H4.out.fr.cell (a:=⟨B,0,none⟩) Cg HX.out.1;go_wp2_with fail;clear hbx5;go_ret;exact gC H4
 | false =>
  simp only [h1,bs,reduceCtorEq] at H0;refine kB H0 Gd ?_;intro w6 H7;clear H0;clear h1;have hbx8:=H7.out.fr.cell (a:=⟨B,0,none⟩) Cg HX.out.1;go_wp2_with fail;clear hbx8;cases h9:(E.word i==[59]) with
  | true =>
   simp only [h9,bs,reduceCtorEq] at H7;refine OA H7 _ ?_;intro w10 H11;clear H7;have hbx12:=H11.out.fr.cell (a:=⟨B,0,none⟩) Cg HX.out.1;go_wp2_with fail;clear hbx12;go_ret;exact gC H11
  | false =>
   simp only [h9,bs,reduceCtorEq] at H7;refine OA H7 _ ?_;intro w13 H14;clear H7;have hbx15:=H14.out.fr.cell (a:=⟨B,0,none⟩) Cg HX.out.1;go_wp2_with fail;clear hbx15;cases h16:(E.word i==[125]) with
   | true =>
    simp only [h16,bs,reduceCtorEq] at H14;refine OA H14 _ ?_;intro w17 H18;clear H14;have hbx19:=H18.out.fr.cell (a:=⟨B,0,none⟩) Cg HX.out.1;go_wp2_with fail;clear hbx19;go_ret;exact gC H18
   | false =>
    simp only [h16,bs,reduceCtorEq] at H14;refine OA H14 _ ?_;intro w20 H21;clear H14;have hbx22:=H21.out.fr.cell (a:=⟨B,0,none⟩) Cg HX.out.1;go_wp2_with fail;clear hbx22;go_ret;exact gC H21
theorem xF.behind {v:Value}{w1 w':World}{e:Ending} (h:xF E c n g v w1 e w') (hf:Fr [c] w w1):xF E c n g v w e w':=⟨h.1,h.2.1,hf.trans h.2.2⟩
theorem rJ (h:Rd E c n g w):Calls Tryz.prog 183 #[.pointer (some ⟨c,0,none⟩)] w (xF E c n g (.bool (embedded E.toEnv n)) w):=by
 have hB:=(J' w.heap.size w).alloc (C' _) (Obj.cells #[.pointer (some ⟨c,0,none⟩)] 54);have hbx:=nE w (.pointer (some ⟨c,0,none⟩)) 54;have HX:=hid (And.intro hbx h.lt);have HFB:=hid (lA c hB);have H0:=Sx.start (T:=bR (embedded E.toEnv n)) (h.below hB) QL rfl
 conv at H0=>arg 1;arg 8;unfold embedded
 obtain⟨_,_,_,hat,_⟩:=(h.below hB).cells;have hsm:((n:Nat):Int)<=1099511627776:=Es
 have hwr:IntKind.i64.wrap ((n:Int)+1)=(n:Int)+1:=Cs
 clear h hB;go_enter Tryz.func183,Tryz.ntmps183;go_wp2_with fail;generalize w.alloc (.cells #[.pointer (some ⟨c,0,none⟩)] 54)=wB at *;generalize w.heap.size=B at *;have H1:=yC H0;clear H0;cases h1:E.named ((n:Nat):Int) with
 | false =>
  simp only [h1,bl,reduceCtorEq,if_true,if_false] at H1
  go_region_held3 (fun w'=>w'.cell? ⟨B,0,none⟩=some (.pointer (some ⟨c,0,none⟩))/\w'.cell? ⟨c,3,none⟩=some (.int .i64 (n:Int))) (first|(refine⟨?_,?_⟩;all_goals (first|assumption|exact aA ((J' _ _).alloc (C' _) _) ‹_›))|(go_split_ands;refine⟨?_,?_⟩;all_goals (first|assumption|exact aA ((J' _ _).alloc (C' _) _) ‹_›))) (first|(go_at_call 143;refine RB H1 _ false h1 ?_;intro w2 H2;clear H1;have hbx:=H2.out.fr.cell (a:=⟨B,0,none⟩) Cg HX.out.1;obtain⟨_,_,_,hat,_⟩:=H2.out.rd.cells))
  clear h1;go_wp2_with fail;go_ret;exact (gC H2).behind HFB.out
 | true =>
  simp only [h1,bl,reduceCtorEq,if_true,if_false] at H1
  go_region_held3 (fun w'=>w'.cell? ⟨B,0,none⟩=some (.pointer (some ⟨c,0,none⟩))/\w'.cell? ⟨c,3,none⟩=some (.int .i64 (n:Int))) (first|(refine⟨?_,?_⟩;all_goals (first|assumption|exact aA ((J' _ _).alloc (C' _) _) ‹_›))|(go_split_ands;refine⟨?_,?_⟩;all_goals (first|assumption|exact aA ((J' _ _).alloc (C' _) _) ‹_›))) (first|(go_at_call 143;refine RB H1 _ true h1 ?_;intro w2 H2;clear H1;have hbx:=H2.out.fr.cell (a:=⟨B,0,none⟩) Cg HX.out.1;obtain⟨_,_,_,hat,_⟩:=H2.out.rd.cells))
  clear h1;go_wp2_with fail;have H3:=yC H2;clear H2;cases h2:(across E.toEnv (((n:Nat):Int)+1)).2 with
  | true =>
   simp only [h2,bl,reduceCtorEq,if_true,if_false] at H3
   go_region_held3 (fun w'=>w'.cell? ⟨B,0,none⟩=some (.pointer (some ⟨c,0,none⟩))/\w'.cell? ⟨c,3,none⟩=some (.int .i64 (n:Int))) (first|(refine⟨?_,?_⟩;all_goals (first|assumption|exact aA ((J' _ _).alloc (C' _) _) ‹_›))|(go_split_ands;refine⟨?_,?_⟩;all_goals (first|assumption|exact aA ((J' _ _).alloc (C' _) _) ‹_›))) (first|(go_at_call 210;refine kB H3 Fc ?_;intro w4 H4;clear H3;have hbx:=H4.out.fr.cell (a:=⟨B,0,none⟩) Cg HX.out.1;obtain⟨_,_,_,hat,_⟩:=H4.out.rd.cells))
   clear h2;go_wp2_with fail;have H5:=yC H4;clear H4;cases h3:rK E.toEnv (((n:Nat):Int)+1) with
   | true =>
    simp only [h3,bl,reduceCtorEq,if_true,if_false] at H5;refine wp_region_held_drew (S:=fun w'=>w'.cell? ⟨B,0,none⟩=some (.pointer (some ⟨c,0,none⟩))/\w'.cell? ⟨c,3,none⟩=some (.int .i64 (n:Int))) Ci ?_ (fun hHeld=>?_)
    ·exact Aw
    refine tk 0 ?_;try simp only [Act.put,ls]
    refine tk 1 ?_;try simp only [Act.put,ls]
    refine tk 2 ?_;try simp only [Act.put,ls]
    refine tk 3 ?_;try simp only [Act.put,ls]
    refine tk 4 ?_;try simp only [Act.put,ls]
    refine tk 5 ?_;try simp only [Act.put,ls]
    refine wpAnyH_ready (rs:=[6]) Ci Cm (AllReadyH.cons (o:=?_) ?_ (fun K hK=>?_) AllReadyH.nil)
    rotate_left
    ·exact Ax
    go_simp
    (go_at_call 209;refine kB H5 Co ?_;intro w6 H6;clear H5;have hbx:=H6.out.fr.cell (a:=⟨B,0,none⟩) Cg HX.out.1;obtain⟨_,_,_,hat,_⟩:=H6.out.rd.cells)
    go_wp2_with fail;refine hK.out _ _ ?_ (fun hHeld6=>?_)
    ·exact Aw
    clear hK K
    try simp only [Act.put,N',Q',S']
    refine tk 7 ?_;try simp only [Act.put,ls]
    refine ts 8 ?_;try simp only [Act.put,ls]
    refine ts 9 ?_;try simp only [Act.put,ls]
    refine ts 10 ?_;try simp only [Act.put,ls]
    refine ts 11 ?_;try simp only [Act.put,ls]
    refine ts 12 ?_;try simp only [Act.put,ls]
    refine ts 13 ?_;try simp only [Act.put,ls]
    refine ts 14 ?_;try simp only [Act.put,ls]
    refine ts 15 ?_;try simp only [Act.put,ls]
    refine tk 16 ?_;try simp only [Act.put,ls]
    refine tk 17 ?_;try simp only [Act.put,ls]
    refine ts 18 ?_;try simp only [Act.put,ls]
    refine ts 19 ?_;try simp only [Act.put,ls]
    refine ts 20 ?_;try simp only [Act.put,ls]
    refine ts 21 ?_;try simp only [Act.put,ls]
    refine ts 22 ?_;try simp only [Act.put,ls]
    refine ts 23 ?_;try simp only [Act.put,ls]
    refine tk 24 ?_;try simp only [Act.put,ls]
    refine tk 25 ?_;try simp only [Act.put,ls]
    refine wpAnyH_done Ci ?_ _;go_wp2_with fail;go_ret;exact (gC H6).behind HFB.out
   | false =>
    cases h4:E.is (n+1) [46] with
    | true =>
     have d4:(E.word (((n:Nat):Int)+1)==[46])=true:=Dd
     simp only [h3,h4,bl,reduceCtorEq,if_true,if_false] at H5;refine wp_region_held_drew (S:=fun w'=>w'.cell? ⟨B,0,none⟩=some (.pointer (some ⟨c,0,none⟩))/\w'.cell? ⟨c,3,none⟩=some (.int .i64 (n:Int))) Ci ?_ (fun hHeld=>?_)
     ·exact Aw
     refine tk 0 ?_;try simp only [Act.put,ls]
     refine tk 1 ?_;try simp only [Act.put,ls]
     refine tk 2 ?_;try simp only [Act.put,ls]
     refine tk 3 ?_;try simp only [Act.put,ls]
     refine tk 4 ?_;try simp only [Act.put,ls]
     refine tk 5 ?_;try simp only [Act.put,ls]
     refine wpAnyH_ready (rs:=[6]) Ci Cm (AllReadyH.cons (o:=?_) ?_ (fun K hK=>?_) AllReadyH.nil)
     rotate_left
     ·exact Ax
     go_simp
     (go_at_call 209;refine kB H5 Co ?_;intro w6 H6;clear H5;have hbx:=H6.out.fr.cell (a:=⟨B,0,none⟩) Cg HX.out.1;obtain⟨_,_,_,hat,_⟩:=H6.out.rd.cells)
     go_wp2_with fail;refine hK.out _ _ ?_ (fun hHeld6=>?_)
     ·exact Aw
     clear hK K
     try simp only [Act.put,N',Q',S']
     refine tk 7 ?_;try simp only [Act.put,ls]
     refine tk 8 ?_;try simp only [Act.put,ls]
     refine tk 9 ?_;try simp only [Act.put,ls]
     refine tk 10 ?_;try simp only [Act.put,ls]
     refine tk 11 ?_;try simp only [Act.put,ls]
     refine tk 12 ?_;try simp only [Act.put,ls]
     refine tk 13 ?_;try simp only [Act.put,ls]
     refine wpAnyH_ready (rs:=[14]) Ci Cm (AllReadyH.cons (o:=?_) ?_ (fun K hK=>?_) AllReadyH.nil)
     rotate_left
     ·exact Ax
     go_simp
     (go_at_call 29;refine OA H6 _ ?_;intro w7 H7;clear H6;have hbx:=H7.out.fr.cell (a:=⟨B,0,none⟩) Cg HX.out.1;obtain⟨_,_,_,hat,_⟩:=H7.out.rd.cells)
     go_wp2_with fail;refine hK.out _ _ ?_ (fun hHeld14=>?_)
     ·exact Aw
     clear hK K
     try simp only [Act.put,N',Q',S']
     refine tk 15 ?_;try simp only [Act.put,ls]
     refine tk 16 ?_;try simp only [Act.put,ls]
     refine tk 17 ?_;try simp only [Act.put,ls]
     refine ts 18 ?_;try simp only [Act.put,ls]
     refine ts 19 ?_;try simp only [Act.put,ls]
     refine ts 20 ?_;try simp only [Act.put,ls]
     refine ts 21 ?_;try simp only [Act.put,ls]
     refine ts 22 ?_;try simp only [Act.put,ls]
     refine ts 23 ?_;try simp only [Act.put,ls]
     refine tk 24 ?_;try simp only [Act.put,ls]
     refine tk 25 ?_;try simp only [Act.put,ls]
     refine wpAnyH_done Ci ?_ _;go_wp2_with fail;go_ret;exact (gC H7).behind HFB.out
    | false =>
     have d4:(E.word (((n:Nat):Int)+1)==[46])=false:=Dd
     simp only [h3,h4,bl,reduceCtorEq,if_true,if_false] at H5;cases h5:rK E.toEnv (across E.toEnv (((n:Nat):Int)+1)).1 with
     | true =>
      simp only [h5] at H5;refine wp_region_held_drew (S:=fun w'=>w'.cell? ⟨B,0,none⟩=some (.pointer (some ⟨c,0,none⟩))/\w'.cell? ⟨c,3,none⟩=some (.int .i64 (n:Int))) Ci ?_ (fun hHeld=>?_)
      ·exact Aw
      refine tk 0 ?_;try simp only [Act.put,ls]
      refine tk 1 ?_;try simp only [Act.put,ls]
      refine tk 2 ?_;try simp only [Act.put,ls]
      refine tk 3 ?_;try simp only [Act.put,ls]
      refine tk 4 ?_;try simp only [Act.put,ls]
      refine tk 5 ?_;try simp only [Act.put,ls]
      refine wpAnyH_ready (rs:=[6]) Ci Cm (AllReadyH.cons (o:=?_) ?_ (fun K hK=>?_) AllReadyH.nil)
      rotate_left
      ·exact Ax
      go_simp
      (go_at_call 209;refine kB H5 Co ?_;intro w6 H6;clear H5;have hbx:=H6.out.fr.cell (a:=⟨B,0,none⟩) Cg HX.out.1;obtain⟨_,_,_,hat,_⟩:=H6.out.rd.cells)
      go_wp2_with fail;refine hK.out _ _ ?_ (fun hHeld6=>?_)
      ·exact Aw
      clear hK K
      try simp only [Act.put,N',Q',S']
      refine tk 7 ?_;try simp only [Act.put,ls]
      refine tk 8 ?_;try simp only [Act.put,ls]
      refine tk 9 ?_;try simp only [Act.put,ls]
      refine tk 10 ?_;try simp only [Act.put,ls]
      refine tk 11 ?_;try simp only [Act.put,ls]
      refine tk 12 ?_;try simp only [Act.put,ls]
      refine tk 13 ?_;try simp only [Act.put,ls]
      refine wpAnyH_ready (rs:=[14]) Ci Cm (AllReadyH.cons (o:=?_) ?_ (fun K hK=>?_) AllReadyH.nil)
      rotate_left
      ·exact Ax
      go_simp
      (go_at_call 29;refine OA H6 _ ?_;intro w7 H7;clear H6;have hbx:=H7.out.fr.cell (a:=⟨B,0,none⟩) Cg HX.out.1;obtain⟨_,_,_,hat,_⟩:=H7.out.rd.cells)
      go_wp2_with fail;refine hK.out _ _ ?_ (fun hHeld14=>?_)
      ·exact Aw
      clear hK K
      try simp only [Act.put,N',Q',S']
      refine tk 15 ?_;try simp only [Act.put,ls]
      refine tk 16 ?_;try simp only [Act.put,ls]
      refine tk 17 ?_;try simp only [Act.put,ls]
      refine tk 18 ?_;try simp only [Act.put,ls]
      refine tk 19 ?_;try simp only [Act.put,ls]
      refine tk 20 ?_;try simp only [Act.put,ls]
      refine tk 21 ?_;try simp only [Act.put,ls]
      refine wpAnyH_ready (rs:=[22]) Ci Cm (AllReadyH.cons (o:=?_) ?_ (fun K hK=>?_) AllReadyH.nil)
      rotate_left
      ·exact Ax
      go_simp
      (go_at_call 209;refine kB H7 C5 ?_;intro w8 H8;clear H7;have hbx:=H8.out.fr.cell (a:=⟨B,0,none⟩) Cg HX.out.1;obtain⟨_,_,_,hat,_⟩:=H8.out.rd.cells)
      go_wp2_with fail;refine hK.out _ _ ?_ (fun hHeld22=>?_)
      ·exact Aw
      clear hK K
      try simp only [Act.put,N',Q',S']
      refine tk 23 ?_;try simp only [Act.put,ls]
      refine tk 24 ?_;try simp only [Act.put,ls]
      refine tk 25 ?_;try simp only [Act.put,ls]
      refine wpAnyH_done Ci ?_ _;go_wp2_with fail;go_ret;exact (gC H8).behind HFB.out
     | false =>
      simp only [h5] at H5;refine wp_region_held_drew (S:=fun w'=>w'.cell? ⟨B,0,none⟩=some (.pointer (some ⟨c,0,none⟩))/\w'.cell? ⟨c,3,none⟩=some (.int .i64 (n:Int))) Ci ?_ (fun hHeld=>?_)
      ·exact Aw
      refine tk 0 ?_;try simp only [Act.put,ls]
      refine tk 1 ?_;try simp only [Act.put,ls]
      refine tk 2 ?_;try simp only [Act.put,ls]
      refine tk 3 ?_;try simp only [Act.put,ls]
      refine tk 4 ?_;try simp only [Act.put,ls]
      refine tk 5 ?_;try simp only [Act.put,ls]
      refine wpAnyH_ready (rs:=[6]) Ci Cm (AllReadyH.cons (o:=?_) ?_ (fun K hK=>?_) AllReadyH.nil)
      rotate_left
      ·exact Ax
      go_simp
      (go_at_call 209;refine kB H5 Co ?_;intro w6 H6;clear H5;have hbx:=H6.out.fr.cell (a:=⟨B,0,none⟩) Cg HX.out.1;obtain⟨_,_,_,hat,_⟩:=H6.out.rd.cells)
      go_wp2_with fail;refine hK.out _ _ ?_ (fun hHeld6=>?_)
      ·exact Aw
      clear hK K
      try simp only [Act.put,N',Q',S']
      refine tk 7 ?_;try simp only [Act.put,ls]
      refine tk 8 ?_;try simp only [Act.put,ls]
      refine tk 9 ?_;try simp only [Act.put,ls]
      refine tk 10 ?_;try simp only [Act.put,ls]
      refine tk 11 ?_;try simp only [Act.put,ls]
      refine tk 12 ?_;try simp only [Act.put,ls]
      refine tk 13 ?_;try simp only [Act.put,ls]
      refine wpAnyH_ready (rs:=[14]) Ci Cm (AllReadyH.cons (o:=?_) ?_ (fun K hK=>?_) AllReadyH.nil)
      rotate_left
      ·exact Ax
      go_simp
      (go_at_call 29;refine OA H6 _ ?_;intro w7 H7;clear H6;have hbx:=H7.out.fr.cell (a:=⟨B,0,none⟩) Cg HX.out.1;obtain⟨_,_,_,hat,_⟩:=H7.out.rd.cells)
      go_wp2_with fail;refine hK.out _ _ ?_ (fun hHeld14=>?_)
      ·exact Aw
      clear hK K
      try simp only [Act.put,N',Q',S']
      refine tk 15 ?_;try simp only [Act.put,ls]
      refine tk 16 ?_;try simp only [Act.put,ls]
      refine tk 17 ?_;try simp only [Act.put,ls]
      refine tk 18 ?_;try simp only [Act.put,ls]
      refine tk 19 ?_;try simp only [Act.put,ls]
      refine tk 20 ?_;try simp only [Act.put,ls]
      refine tk 21 ?_;try simp only [Act.put,ls]
      refine wpAnyH_ready (rs:=[22]) Ci Cm (AllReadyH.cons (o:=?_) ?_ (fun K hK=>?_) AllReadyH.nil)
      rotate_left
      ·exact Ax
      go_simp
      (go_at_call 209;refine kB H7 C5 ?_;intro w8 H8;clear H7;have hbx:=H8.out.fr.cell (a:=⟨B,0,none⟩) Cg HX.out.1;obtain⟨_,_,_,hat,_⟩:=H8.out.rd.cells)
      go_wp2_with fail;refine hK.out _ _ ?_ (fun hHeld22=>?_)
      ·exact Aw
      clear hK K
      try simp only [Act.put,N',Q',S']
      refine tk 23 ?_;try simp only [Act.put,ls]
      refine tk 24 ?_;try simp only [Act.put,ls]
      refine tk 25 ?_;try simp only [Act.put,ls]
      refine wpAnyH_done Ci ?_ _;go_wp2_with fail;go_ret;exact (gC H8).behind HFB.out
  | false =>
   simp only [h2,bl,reduceCtorEq,if_true,if_false] at H3
   go_region_held3 (fun w'=>w'.cell? ⟨B,0,none⟩=some (.pointer (some ⟨c,0,none⟩))/\w'.cell? ⟨c,3,none⟩=some (.int .i64 (n:Int))) (first|(refine⟨?_,?_⟩;all_goals (first|assumption|exact aA ((J' _ _).alloc (C' _) _) ‹_›))|(go_split_ands;refine⟨?_,?_⟩;all_goals (first|assumption|exact aA ((J' _ _).alloc (C' _) _) ‹_›))) (first|(go_at_call 210;refine kB H3 Fc ?_;intro w4 H4;clear H3;have hbx:=H4.out.fr.cell (a:=⟨B,0,none⟩) Cg HX.out.1;obtain⟨_,_,_,hat,_⟩:=H4.out.rd.cells))
   clear h2;go_wp2_with fail;have H5:=yC H4;clear H4;cases h3:rK E.toEnv (((n:Nat):Int)+1) with
   | true =>
    simp only [h3,bl,reduceCtorEq,if_true,if_false] at H5;refine wp_region_held_drew (S:=fun w'=>w'.cell? ⟨B,0,none⟩=some (.pointer (some ⟨c,0,none⟩))/\w'.cell? ⟨c,3,none⟩=some (.int .i64 (n:Int))) Ci ?_ (fun hHeld=>?_)
    ·exact Aw
    refine tk 0 ?_;try simp only [Act.put,ls]
    refine tk 1 ?_;try simp only [Act.put,ls]
    refine tk 2 ?_;try simp only [Act.put,ls]
    refine tk 3 ?_;try simp only [Act.put,ls]
    refine tk 4 ?_;try simp only [Act.put,ls]
    refine tk 5 ?_;try simp only [Act.put,ls]
    refine wpAnyH_ready (rs:=[6]) Ci Cm (AllReadyH.cons (o:=?_) ?_ (fun K hK=>?_) AllReadyH.nil)
    rotate_left
    ·exact Ax
    go_simp
    (go_at_call 209;refine kB H5 Co ?_;intro w6 H6;clear H5;have hbx:=H6.out.fr.cell (a:=⟨B,0,none⟩) Cg HX.out.1;obtain⟨_,_,_,hat,_⟩:=H6.out.rd.cells)
    go_wp2_with fail;refine hK.out _ _ ?_ (fun hHeld6=>?_)
    ·exact Aw
    clear hK K
    try simp only [Act.put,N',Q',S']
    refine tk 7 ?_;try simp only [Act.put,ls]
    refine ts 8 ?_;try simp only [Act.put,ls]
    refine ts 9 ?_;try simp only [Act.put,ls]
    refine ts 10 ?_;try simp only [Act.put,ls]
    refine ts 11 ?_;try simp only [Act.put,ls]
    refine ts 12 ?_;try simp only [Act.put,ls]
    refine ts 13 ?_;try simp only [Act.put,ls]
    refine ts 14 ?_;try simp only [Act.put,ls]
    refine ts 15 ?_;try simp only [Act.put,ls]
    refine tk 16 ?_;try simp only [Act.put,ls]
    refine tk 17 ?_;try simp only [Act.put,ls]
    refine ts 18 ?_;try simp only [Act.put,ls]
    refine ts 19 ?_;try simp only [Act.put,ls]
    refine ts 20 ?_;try simp only [Act.put,ls]
    refine ts 21 ?_;try simp only [Act.put,ls]
    refine ts 22 ?_;try simp only [Act.put,ls]
    refine ts 23 ?_;try simp only [Act.put,ls]
    refine tk 24 ?_;try simp only [Act.put,ls]
    refine tk 25 ?_;try simp only [Act.put,ls]
    refine wpAnyH_done Ci ?_ _;go_wp2_with fail;go_ret;exact (gC H6).behind HFB.out
   | false =>
    cases h4:E.is (n+1) [46] with
    | true =>
     have d4:(E.word (((n:Nat):Int)+1)==[46])=true:=Dd
     simp only [h3,h4,bl,reduceCtorEq,if_true,if_false] at H5;refine wp_region_held_drew (S:=fun w'=>w'.cell? ⟨B,0,none⟩=some (.pointer (some ⟨c,0,none⟩))/\w'.cell? ⟨c,3,none⟩=some (.int .i64 (n:Int))) Ci ?_ (fun hHeld=>?_)
     ·exact Aw
     refine tk 0 ?_;try simp only [Act.put,ls]
     refine tk 1 ?_;try simp only [Act.put,ls]
     refine tk 2 ?_;try simp only [Act.put,ls]
     refine tk 3 ?_;try simp only [Act.put,ls]
     refine tk 4 ?_;try simp only [Act.put,ls]
     refine tk 5 ?_;try simp only [Act.put,ls]
     refine wpAnyH_ready (rs:=[6]) Ci Cm (AllReadyH.cons (o:=?_) ?_ (fun K hK=>?_) AllReadyH.nil)
     rotate_left
     ·exact Ax
     go_simp
     (go_at_call 209;refine kB H5 Co ?_;intro w6 H6;clear H5;have hbx:=H6.out.fr.cell (a:=⟨B,0,none⟩) Cg HX.out.1;obtain⟨_,_,_,hat,_⟩:=H6.out.rd.cells)
     go_wp2_with fail;refine hK.out _ _ ?_ (fun hHeld6=>?_)
     ·exact Aw
     clear hK K
     try simp only [Act.put,N',Q',S']
     refine tk 7 ?_;try simp only [Act.put,ls]
     refine tk 8 ?_;try simp only [Act.put,ls]
     refine tk 9 ?_;try simp only [Act.put,ls]
     refine tk 10 ?_;try simp only [Act.put,ls]
     refine tk 11 ?_;try simp only [Act.put,ls]
     refine tk 12 ?_;try simp only [Act.put,ls]
     refine tk 13 ?_;try simp only [Act.put,ls]
     refine wpAnyH_ready (rs:=[14]) Ci Cm (AllReadyH.cons (o:=?_) ?_ (fun K hK=>?_) AllReadyH.nil)
     rotate_left
     ·exact Ax
     go_simp
     (go_at_call 29;refine OA H6 _ ?_;intro w7 H7;clear H6;have hbx:=H7.out.fr.cell (a:=⟨B,0,none⟩) Cg HX.out.1;obtain⟨_,_,_,hat,_⟩:=H7.out.rd.cells)
     go_wp2_with fail;refine hK.out _ _ ?_ (fun hHeld14=>?_)
     ·exact Aw
     clear hK K
     try simp only [Act.put,N',Q',S']
     refine tk 15 ?_;try simp only [Act.put,ls]
     refine tk 16 ?_;try simp only [Act.put,ls]
     refine tk 17 ?_;try simp only [Act.put,ls]
     refine ts 18 ?_;try simp only [Act.put,ls]
     refine ts 19 ?_;try simp only [Act.put,ls]
     refine ts 20 ?_;try simp only [Act.put,ls]
     refine ts 21 ?_;try simp only [Act.put,ls]
     refine ts 22 ?_;try simp only [Act.put,ls]
     refine ts 23 ?_;try simp only [Act.put,ls]
     refine tk 24 ?_;try simp only [Act.put,ls]
     refine tk 25 ?_;try simp only [Act.put,ls]
     refine wpAnyH_done Ci ?_ _;go_wp2_with fail;go_ret;exact (gC H7).behind HFB.out
    | false =>
     have d4:(E.word (((n:Nat):Int)+1)==[46])=false:=Dd
     simp only [h3,h4,bl,reduceCtorEq,if_true,if_false] at H5;refine wp_region_held_drew (S:=fun w'=>w'.cell? ⟨B,0,none⟩=some (.pointer (some ⟨c,0,none⟩))/\w'.cell? ⟨c,3,none⟩=some (.int .i64 (n:Int))) Ci ?_ (fun hHeld=>?_)
     ·exact Aw
     refine tk 0 ?_;try simp only [Act.put,ls]
     refine tk 1 ?_;try simp only [Act.put,ls]
     refine tk 2 ?_;try simp only [Act.put,ls]
     refine tk 3 ?_;try simp only [Act.put,ls]
     refine tk 4 ?_;try simp only [Act.put,ls]
     refine tk 5 ?_;try simp only [Act.put,ls]
     refine wpAnyH_ready (rs:=[6]) Ci Cm (AllReadyH.cons (o:=?_) ?_ (fun K hK=>?_) AllReadyH.nil)
     rotate_left
     ·exact Ax
     go_simp
     (go_at_call 209;refine kB H5 Co ?_;intro w6 H6;clear H5;have hbx:=H6.out.fr.cell (a:=⟨B,0,none⟩) Cg HX.out.1;obtain⟨_,_,_,hat,_⟩:=H6.out.rd.cells)
     go_wp2_with fail;refine hK.out _ _ ?_ (fun hHeld6=>?_)
     ·exact Aw
     clear hK K
     try simp only [Act.put,N',Q',S']
     refine tk 7 ?_;try simp only [Act.put,ls]
     refine tk 8 ?_;try simp only [Act.put,ls]
     refine tk 9 ?_;try simp only [Act.put,ls]
     refine tk 10 ?_;try simp only [Act.put,ls]
     refine tk 11 ?_;try simp only [Act.put,ls]
     refine tk 12 ?_;try simp only [Act.put,ls]
     refine tk 13 ?_;try simp only [Act.put,ls]
     refine wpAnyH_ready (rs:=[14]) Ci Cm (AllReadyH.cons (o:=?_) ?_ (fun K hK=>?_) AllReadyH.nil)
     rotate_left
     ·exact Ax
     go_simp
     (go_at_call 29;refine OA H6 _ ?_;intro w7 H7;clear H6;have hbx:=H7.out.fr.cell (a:=⟨B,0,none⟩) Cg HX.out.1;obtain⟨_,_,_,hat,_⟩:=H7.out.rd.cells)
     go_wp2_with fail;refine hK.out _ _ ?_ (fun hHeld14=>?_)
     ·exact Aw
     clear hK K
     try simp only [Act.put,N',Q',S']
     refine tk 15 ?_;try simp only [Act.put,ls]
     refine tk 16 ?_;try simp only [Act.put,ls]
     refine tk 17 ?_;try simp only [Act.put,ls]
     refine tk 18 ?_;try simp only [Act.put,ls]
     refine tk 19 ?_;try simp only [Act.put,ls]
     refine ts 20 ?_;try simp only [Act.put,ls]
     refine ts 21 ?_;try simp only [Act.put,ls]
     refine ts 22 ?_;try simp only [Act.put,ls]
     refine tk 23 ?_;try simp only [Act.put,ls]
     refine tk 24 ?_;try simp only [Act.put,ls]
     refine tk 25 ?_;try simp only [Act.put,ls]
     refine wpAnyH_done Ci ?_ _;go_wp2_with fail;go_ret;exact (gC H7).behind HFB.out
theorem cR {E:Env} (n:Nat):zH E n≠.out:=by
 unfold zH TH leaf
 repeat' split
 all_goals (intro h;cases h)
theorem mQ (H:aB E S) (h:Rd E c n g w) (hr:WE E.toEnv S n g≠.out) :
  Calls Tryz.prog 148 #[.pointer (some ⟨c,0,none⟩)] w (Ans E c g (WE E.toEnv S n g) w):=by
 have HD:=hid H;clear H;have H0:=Sx.start h hr rfl
 conv at H0=>arg 1;arg 8;unfold WE
 try simp only [bs,reduceCtorEq] at H0
 clear h hr;go_enter Tryz.func148,Tryz.ntmps148;go_wp2_with fail;refine yB H0 22 ?_;intro p w1 H2;clear H0;go_wp2_with fail;cases h3:E.is n [42] with
 | true =>
  have d4:(E.word (n:Nat)==[42])=true:=h3;simp only [h3,bs,reduceCtorEq] at H2;have HLTh3:=hid (gA h3);have HYh3:=hid h3;clear h3;refine cA H2 ?_;intro w5 H6;clear H2;go_wp2_with fail;refine TK H6 35 ?_;intro p8 w7 H9;obtain⟨_,_,_,hat12,_⟩:=H9.out.rd.cells;have hsm13:((n:Nat):Int)<=1099511627776:=by have:=H9.out.rd.at_;have:=H9.out.rd.lie.small;omega
  have hfz11:=H9.out.rd.free 3;have H10:=ZA H9 HLTh3;clear H9;obtain⟨n14,hm⟩:∃ m,m=n+1:=⟨_,rfl⟩;simp only [<- hm] at H10;have HMn14:=hid hm;clear hm;go_wp2_with fail;generalize (w7.setCell ⟨c,3,none⟩ (.int .i64 (((n:Nat):Int)+1)))=w15 at *;clear hat12 hsm13 hfz11
  try simp only [show (((n:Nat):Int)+1)=((n14:Nat):Int) from by have:=HMn14.out;omega] at H10
  rw [show (((n:Nat):Int)+1)=((n14:Nat):Int) from by have:=HMn14.out;omega];cases h16:E.named ((n14:Nat):Int) with
  | true =>
   simp only [h16,bs,reduceCtorEq] at H10;refine RB H10 _ true h16 ?_;intro w17 H18;clear H10;have HYh16:=hid h16;clear h16;go_wp2_with fail;refine jA (F:=.typeName) H18 HD Ch ⟨rfl,rfl⟩ (fun _ _ h=>⟨rfl,h⟩) ?_;intro q21 t22 n20 w19 H23;clear H18;go_wp2_with fail;refine (mU H6 H23 Cm).mono ?_;rintro e w24 ⟨rfl,H26⟩;clear H23 H6;go_wp2_with fail;refine TB H26 (fun _=>fL H26.out.rd (cR _)) (fun _ _ h=>⟨rfl,h⟩) ?_;intro q29 t30 n28 w27 H31;clear H26;go_wp2_with fail;refine (eA H31 Cm).mono ?_;rintro e wz ⟨rfl,HA⟩;clear H31;go_wp2_with fail;go_ret;exact HA.out
  | false =>
   simp only [h16,bs,reduceCtorEq] at H10;refine RB H10 _ false h16 ?_;intro w32 H33;clear H10;clear h16;go_wp2_with fail;exact rG H33 (fun _ _ h=>⟨rfl,h⟩)
 | false =>
  have d4:(E.word (n:Nat)==[42])=false:=h3;simp only [h3,bs,reduceCtorEq] at H2;clear h3;refine cA H2 ?_;intro w34 H35;clear H2;go_wp2_with fail;cases h36:embedded E.toEnv n with
  | true =>
   simp only [h36,bs,reduceCtorEq] at H35;refine kB H35 Ge ?_;intro w37 H38;clear H35;have HYh36:=hid h36;clear h36;go_wp2_with fail;refine jA (F:=.typeName) H38 HD Ch ⟨rfl,rfl⟩ (fun _ _ h=>⟨rfl,h⟩) ?_;intro q41 t42 n40 w39 H43;clear H38;go_wp2_with fail;refine TB H43 (fun _=>fL H43.out.rd (cR _)) (fun _ _ h=>⟨rfl,h⟩) ?_;intro q46 t47 n45 w44 H48;clear H43;go_wp2_with fail;refine (eA H48 Cm).mono ?_;rintro e wz ⟨rfl,HA⟩;clear H48;go_wp2_with fail;go_ret;exact HA.out
  | false =>
   simp only [h36,bs,reduceCtorEq] at H35;refine kB H35 Ge ?_;intro w49 H50;clear H35;clear h36;obtain⟨hk53,_,hf54,_,_⟩:=H50.out.ex.opn.blk.cells;have hfz52:=H50.out.ex.opn.blk.free 0;have H51:Hid (Sx _ _ _ _ _ _ _ _ (w49.setCell ⟨p,0,none⟩ (.int .u8 21))):=dB H50 21;clear H50;go_wp2_with fail;generalize (w49.setCell ⟨p,0,none⟩ (.int .u8 21))=w55 at *;clear hfz52 hk53 hf54;refine jA (F:=.names) H51 HD Ch ⟨rfl,rfl⟩ (fun _ _ h=>⟨rfl,h⟩) ?_;intro q58 t59 n57 w56 H60;clear H51;go_wp2_with fail;refine jA (F:=.typ) H60 HD Ch ⟨rfl,rfl⟩ (fun _ _ h=>⟨rfl,h⟩) ?_;intro q63 t64 n62 w61 H65;clear H60;go_wp2_with fail;refine TB H65 (fun _=>fL H65.out.rd (cR _)) (fun _ _ h=>⟨rfl,h⟩) ?_;intro q68 t69 n67 w66 H70;clear H65;go_wp2_with fail;refine (eA H70 Cm).mono ?_;rintro e wz ⟨rfl,HA⟩;clear H70;go_wp2_with fail;go_ret;exact HA.out
end
