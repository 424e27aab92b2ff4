import Derived.Test.YtfmpphplbdojbaaGreatDoorQAJ
namespace Go.Proofs.YtfmpphplbdojbaaGreatDoor
open Lib(hid)
set_option linter.all false
set_option maxHeartbeats 40000000
set_option maxRecDepth 100000
section
open Go.RowKit
variable {E:Ev}{S:AB}{c n k:Nat}{g:Bool}{w w0 w1 w2:World}{v:Value}{ps:List Nat}{ts:List Tr}{rs:List Nat}{us:List Tr}{T X:R Tr}
theorem CM (H:∀ j,j<=k->aB E (kA E.toEnv j)) (hkk:k<=1000000000000) (h:Rd E c n g w) (hr:(kA E.toEnv k).t (.stmtsMore []) n g≠.out) :
  Calls Tryz.prog 105 #[.pointer (some ⟨c,0,none⟩)] w (Ans E c g ((kA E.toEnv k).t (.stmtsMore []) n g) w):=by
 have HA:=hid H;clear H;have H0:=iK (Sx.start h hr rfl);clear h hr;go_enter Tryz.func105,Tryz.ntmps105;go_wp2_with fail
 go_loopg [3] k (fun j v wr=>tL E c g w ((kA E.toEnv k).t (.stmtsMore []) n g) F.stmtsMore k j v wr)
 case atStart=>exact⟨n,[],[],Cm,H0⟩
 case round =>
  clear H0;obtain⟨n2,acc,ps,hl,H3⟩:=hrel;have HL:=hid hl;clear hl;rcases gk with _|j
  ·exact Bc
  ·replace H3:Hid (Sx _ _ _ _ _ _ _ (dC E.toEnv (kA E.toEnv j) acc n2 g) _):=H3
   conv at H3=>arg 1;arg 8;unfold dC
   cases h1:E.is n2 [125] with
   | true =>
    have d1:(E.word (n2:Nat)==[125])=true:=h1;simp only [h1,Bool.true_or,Bool.or_true,Bool.false_or,Bool.or_false,Bool.or_self,Bool.false_eq_true,if_true,if_false] at H3;clear h1;go_wp2_with fail;refine cA H3 ?_;intro w4 H4;clear H3;go_wp2_with fail;refine LE (k2:=13) H4 Cr ?_;intro q6 w6 H6;clear H4;go_wp2_with fail;go_ret;exact RE (rs:=[]) (us:=[]) H6
   | false =>
    have d1:(E.word (n2:Nat)==[125])=false:=h1;simp only [h1,Bool.true_or,Bool.or_true,Bool.false_or,Bool.or_false,Bool.or_self,Bool.false_eq_true,if_true,if_false] at H3;clear h1;cases h2:E.is n2 [99,97,115,101] with
    | true =>
     have d2:(E.word (n2:Nat)==[99,97,115,101])=true:=h2;simp only [h2,Bool.true_or,Bool.or_true,Bool.false_or,Bool.or_false,Bool.or_self,Bool.false_eq_true,if_true,if_false] at H3;clear h2;go_wp2_with fail;refine cA H3 ?_;intro w4 H4;clear H3;go_wp2_with fail;refine LE (k2:=13) H4 Cr ?_;intro q6 w6 H6;clear H4;go_wp2_with fail;go_ret;exact RE (rs:=[]) (us:=[]) H6
    | false =>
     have d2:(E.word (n2:Nat)==[99,97,115,101])=false:=h2;simp only [h2,Bool.true_or,Bool.or_true,Bool.false_or,Bool.or_false,Bool.or_self,Bool.false_eq_true,if_true,if_false] at H3;clear h2;cases h3:E.is n2 [100,101,102,97,117,108,116] with
     | true =>
      have d3:(E.word (n2:Nat)==[100,101,102,97,117,108,116])=true:=h3;simp only [h3,Bool.true_or,Bool.or_true,Bool.false_or,Bool.or_false,Bool.or_self,Bool.false_eq_true,if_true,if_false] at H3;clear h3;go_wp2_with fail;refine cA H3 ?_;intro w4 H4;clear H3;go_wp2_with fail;refine LE (k2:=13) H4 Cr ?_;intro q6 w6 H6;clear H4;go_wp2_with fail;go_ret;exact RE (rs:=[]) (us:=[]) H6
     | false =>
      have d3:(E.word (n2:Nat)==[100,101,102,97,117,108,116])=false:=h3;simp only [h3,Bool.true_or,Bool.or_true,Bool.false_or,Bool.or_false,Bool.or_self,Bool.false_eq_true,if_true,if_false] at H3;clear h3;cases h4:E.ended n2 with
      | true =>
       simp only [h4,Bool.true_or,Bool.or_true,Bool.false_or,Bool.or_false,Bool.or_self,Bool.false_eq_true,if_true,if_false] at H3;go_wp2_with fail;refine cA H3 ?_;intro w4 H4;clear H3;go_wp2_with fail;refine AD H4 true h4 ?_;intro w5 H5;clear H4 h4;go_wp2_with fail;refine LE (k2:=13) H5 Cr ?_;intro q6 w6 H6;clear H5;go_wp2_with fail;go_ret;exact RE (rs:=[]) (us:=[]) H6
      | false =>
       simp only [h4,Bool.true_or,Bool.or_true,Bool.false_or,Bool.or_false,Bool.or_self,Bool.false_eq_true,if_true,if_false] at H3;cases h5:E.is n2 [59] with
       | true =>
        have d5:(E.word (n2:Nat)==[59])=true:=h5;simp only [h5,Bool.true_or,Bool.or_true,Bool.false_or,Bool.or_false,Bool.or_self,Bool.false_eq_true,if_true,if_false] at H3;have HLT:=hid (gA h5);clear h5;go_wp2_with fail;refine cA H3 ?_;intro w4 H4;clear H3;go_wp2_with fail;refine AD H4 false h4 ?_;intro w5 H5;clear H4 h4;go_wp2_with fail;refine sS H5 49 ?_;intro q6 w6 H6;clear H5;go_wp2_with (at_builtin;refine iC rfl _ _ rfl H6 (C' _) rfl rfl Cr ?_);intro v7 w7 H7;clear H6;obtain⟨_,_,_,hat,_⟩:=H7.out.rd.cells;have hsm:((n2:Nat):Int)<=1099511627776:=by have:=H7.out.rd.at_;have:=H7.out.rd.lie.small;omega
        have hfz:=H7.out.rd.free 3;have H8:=ZA H7 HLT;clear H7;go_wp2_with fail;clear hat hsm hfz;go_roundg j
        case measure=>omega
        case rel=>exact⟨n2+1,_,_,Cv,H8⟩
       | false =>
        have d5:(E.word (n2:Nat)==[59])=false:=h5;simp only [h5,Bool.true_or,Bool.or_true,Bool.false_or,Bool.or_false,Bool.or_self,Bool.false_eq_true,if_true,if_false] at H3;clear h5;go_wp2_with fail;refine cA H3 ?_;intro w4 H4;clear H3;go_wp2_with fail;refine AD H4 false h4 ?_;intro w5 H5;clear H4 h4;go_wp2_with fail;refine iF (F:=.stmt) H5 (hid (HA.out j Cr)) Ch ⟨rfl,rfl⟩ (fun _ _ h=>⟨rfl,h⟩) ?_;intro q6 u6 n6 w6 H6;clear H5;cases h6:E.is n6 [125] with
        | true =>
         have d6:(E.word (n6:Nat)==[125])=true:=h6;simp only [h6,Bool.true_or,Bool.or_true,Bool.false_or,Bool.or_false,Bool.or_self,Bool.false_eq_true,if_true,if_false] at H6;clear h6;go_wp2_with (at_builtin;refine iC rfl _ _ rfl H6 (C' _) rfl rfl Cr ?_);intro v7 w7 H7;clear H6;go_wp2_with fail;refine cA H7 ?_;intro w8 H8;clear H7;go_wp2_with fail;go_roundg j
         case measure=>omega
         case rel=>exact⟨n6,_,_,Cv,H8⟩
        | false =>
         have d6:(E.word (n6:Nat)==[125])=false:=h6;cases h7:E.ended n6 with
         | true =>
          simp only [h6,h7,Bool.true_or,Bool.or_true,Bool.false_or,Bool.or_false,Bool.or_self,Bool.false_eq_true,if_true,if_false] at H6;clear h6;go_wp2_with (at_builtin;refine iC rfl _ _ rfl H6 (C' _) rfl rfl Cr ?_);intro v7 w7 H7;clear H6;go_wp2_with fail;refine cA H7 ?_;intro w8 H8;clear H7;go_wp2_with fail;refine AD H8 true h7 ?_;intro w9 H9;clear H8 h7;go_wp2_with fail;go_roundg j
          case measure=>omega
          case rel=>exact⟨n6,_,_,Cv,H9⟩
         | false =>
          simp only [h6,h7,Bool.true_or,Bool.or_true,Bool.false_or,Bool.or_false,Bool.or_self,Bool.false_eq_true,if_true,if_false] at H6;clear h6;go_wp2_with (at_builtin;refine iC rfl _ _ rfl H6 (C' _) rfl rfl Cr ?_);intro v7 w7 H7;clear H6;go_wp2_with fail;refine cA H7 ?_;intro w8 H8;clear H7;go_wp2_with fail;refine AD H8 false h7 ?_;intro w9 H9;clear H8 h7;go_wp2_with fail;refine FA H9 (fun _ _ h=>⟨rfl,h⟩) ?_;intro n10 w10 H10;clear H9;go_wp2_with fail;go_roundg j
          case measure=>omega
          case rel=>exact⟨n10,_,_,Cv,H10⟩
end
section
open Go.RowKit
variable {E:Ev}{S:AB}{c n k:Nat}{g:Bool}{w w0 w1 w2:World}{v:Value}{ps:List Nat}{ts:List Tr}{rs:List Nat}{us:List Tr}{T X:R Tr}
def cO (E:Ev) (c:Nat) (g:Bool) (w wB:World) (T:R Tr) (mk:List Tr->F) (k j:Nat) (v:Value) (wr:World):Prop :=
 ∃ n acc ps,ps.length+j<=k+1/\Hid (Sx E c n g w (Rw E c wB v ps acc [] []) T ((kA E.toEnv j).t (mk acc) n g) wr)
theorem wT (H:∀ j,j<=k->aB E (kA E.toEnv j)) (hkk:k<=1000000000000) (h:Rd E c 0 g w) (hr:EF E.toEnv (kA E.toEnv k) 0 g≠.out) :
  Calls Tryz.prog 68 #[.pointer (some ⟨c,0,none⟩)] w (Ans E c g (EF E.toEnv (kA E.toEnv k) 0 g) w):=by
 have HA:=hid H;clear H;have H0:=Sx.start h hr rfl
 conv at H0=>arg 1;arg 8;unfold EF
 clear h hr;go_enter Tryz.func68,Tryz.ntmps68;go_wp2_with fail;refine yB H0 1 ?_;intro p w1 H1;clear H0;go_wp2_with fail;refine FA H1 (fun _ _ h=>⟨rfl,h⟩) ?_;intro n2 w2 H2;clear H1;go_wp2_with fail;refine lG H2 (fun _ _ h=>⟨rfl,h⟩) ?_;intro q3 t3 n3 w3 H3;clear H2;go_wp2_with fail;refine FA H3 (fun _ _ h=>⟨rfl,h⟩) ?_;intro n4 w4 HN;clear H3;have H4:=gX HN;go_wp2_with fail
 go_loopg [5] k (fun j v wr=>cO E c g w w4 (EF E.toEnv (kA E.toEnv k) 0 g) (F.fileImports t3) k j v wr)
 case atStart=>exact⟨n4,[],[],Cm,H4⟩
 case round =>
  clear H4;obtain⟨n5,acc,ps,hl,H5⟩:=hrel;have HL:=hid hl;clear hl;rcases gk with _|j
  ·exact absurd H5.out.eq H5.out.ne
  ·replace H5:Hid (Sx _ _ _ _ _ _ _ (lB E.toEnv (kA E.toEnv j) t3 acc n5 g) _):=H5
   conv at H5=>arg 1;arg 8;unfold lB
   cases h1:E.is n5 [105,109,112,111,114,116] with
   | true =>
    have d1:(E.word (n5:Nat)==[105,109,112,111,114,116])=true:=h1;simp only [h1,Bool.true_or,Bool.or_true,Bool.false_or,Bool.or_false,Bool.or_self,Bool.false_eq_true,if_true,if_false] at H5;have HLT:=hid (gA h1);clear h1;go_wp2_with fail;refine cA H5 ?_;intro w6 H6;clear H5;go_wp2_with fail;refine iH (F:=.group) H6 (hid (HA.out j Cr)) Ch rfl HLT (fun _ _ h=>⟨rfl,h⟩) ?_;intro q7 u7 n7 w7 H7;clear H6;go_wp2_with (at_builtin;refine iC rfl _ _ rfl H7 HN.out.fr.size rfl rfl Cr ?_);intro v8 w8 H8;clear H7;go_wp2_with fail;refine FA H8 (fun _ _ h=>⟨rfl,h⟩) ?_;intro n9 w9 H9;clear H8;go_wp2_with fail;go_roundg j
    case measure=>omega
    case rel=>exact⟨n9,_,_,Cv,H9⟩
   | false =>
    have d1:(E.word (n5:Nat)==[105,109,112,111,114,116])=false:=h1;simp only [h1,Bool.true_or,Bool.or_true,Bool.false_or,Bool.or_false,Bool.or_self,Bool.false_eq_true,if_true,if_false] at H5;clear h1;go_wp2_with fail;refine cA H5 ?_;intro w6 H6;clear H5;go_wp2_with fail;refine VJ HN (k2:=2) H6 Cr ?_;intro q7 w7 HM;clear H6 HN;have H7:=gX HM;have HJ:Hid (j<=k):=hid Cr;clear HL;go_wp2_with fail
    go_loopg [6] j (fun j2 v wr=>cO E c g w w7 (EF E.toEnv (kA E.toEnv k) 0 g) (F.fileDecls t3 (xC 2 acc n5)) j j2 v wr)
    case atStart=>exact⟨n5,[],[],Cm,H7⟩
    case round =>
     clear H7;obtain⟨n8,acc2,ps2,hl,H8⟩:=hrel;have HL:=hid hl;clear hl;rcases gk with _|i
     ·exact absurd H8.out.eq H8.out.ne
     ·replace H8:Hid (Sx _ _ _ _ _ _ _ (eC E.toEnv (kA E.toEnv i) t3 (xC 2 acc n5) acc2 n8 g) _):=H8
      conv at H8=>arg 1;arg 8;unfold eC
      cases h6:E.is n8 [99,111,110,115,116] with
      | true =>
       have d6:(E.word (n8:Nat)==[99,111,110,115,116])=true:=h6;simp only [h6,Bool.true_or,Bool.or_true,Bool.false_or,Bool.or_false,Bool.or_self,Bool.false_eq_true,if_true,if_false] at H8;have HLT:=hid (gA h6);clear h6;go_wp2_with fail;refine cA H8 ?_;intro w9 H9;clear H8;go_wp2_with fail;refine iH (F:=.group) H9 (hid (HA.out i Da)) Ch rfl HLT (fun _ _ h=>⟨rfl,h⟩) ?_;intro q10 u10 n10 w10 H10;clear H9;go_wp2_with (at_builtin;refine iC rfl _ _ rfl H10 HM.out.fr.size rfl rfl Da ?_);intro v11 w11 H11;clear H10;go_wp2_with fail;refine FA H11 (fun _ _ h=>⟨rfl,h⟩) ?_;intro n12 w12 H12;clear H11;go_wp2_with fail;go_roundg i
       case measure=>omega
       case rel=>exact⟨n12,_,_,Cv,H12⟩
      | false =>
       have d6:(E.word (n8:Nat)==[99,111,110,115,116])=false:=h6;simp only [h6,Bool.true_or,Bool.or_true,Bool.false_or,Bool.or_false,Bool.or_self,Bool.false_eq_true,if_true,if_false] at H8;clear h6;cases h7:E.is n8 [118,97,114] with
       | true =>
        have d7:(E.word (n8:Nat)==[118,97,114])=true:=h7;simp only [h7,Bool.true_or,Bool.or_true,Bool.false_or,Bool.or_false,Bool.or_self,Bool.false_eq_true,if_true,if_false] at H8;have HLT:=hid (gA h7);clear h7;go_wp2_with fail;refine cA H8 ?_;intro w9 H9;clear H8;go_wp2_with fail;refine iH (F:=.group) H9 (hid (HA.out i Da)) Ch rfl HLT (fun _ _ h=>⟨rfl,h⟩) ?_;intro q10 u10 n10 w10 H10;clear H9;go_wp2_with (at_builtin;refine iC rfl _ _ rfl H10 HM.out.fr.size rfl rfl Da ?_);intro v11 w11 H11;clear H10;go_wp2_with fail;refine FA H11 (fun _ _ h=>⟨rfl,h⟩) ?_;intro n12 w12 H12;clear H11;go_wp2_with fail;go_roundg i
        case measure=>omega
        case rel=>exact⟨n12,_,_,Cv,H12⟩
       | false =>
        have d7:(E.word (n8:Nat)==[118,97,114])=false:=h7;simp only [h7,Bool.true_or,Bool.or_true,Bool.false_or,Bool.or_false,Bool.or_self,Bool.false_eq_true,if_true,if_false] at H8;clear h7;cases h8:E.is n8 [116,121,112,101] with
        | true =>
         have d8:(E.word (n8:Nat)==[116,121,112,101])=true:=h8;simp only [h8,Bool.true_or,Bool.or_true,Bool.false_or,Bool.or_false,Bool.or_self,Bool.false_eq_true,if_true,if_false] at H8;have HLT:=hid (gA h8);clear h8;go_wp2_with fail;refine cA H8 ?_;intro w9 H9;clear H8;go_wp2_with fail;refine iH (F:=.group) H9 (hid (HA.out i Da)) Ch rfl HLT (fun _ _ h=>⟨rfl,h⟩) ?_;intro q10 u10 n10 w10 H10;clear H9;go_wp2_with (at_builtin;refine iC rfl _ _ rfl H10 HM.out.fr.size rfl rfl Da ?_);intro v11 w11 H11;clear H10;go_wp2_with fail;refine FA H11 (fun _ _ h=>⟨rfl,h⟩) ?_;intro n12 w12 H12;clear H11;go_wp2_with fail;go_roundg i
         case measure=>omega
         case rel=>exact⟨n12,_,_,Cv,H12⟩
        | false =>
         have d8:(E.word (n8:Nat)==[116,121,112,101])=false:=h8;simp only [h8,Bool.true_or,Bool.or_true,Bool.false_or,Bool.or_false,Bool.or_self,Bool.false_eq_true,if_true,if_false] at H8;clear h8;cases h9:E.is n8 [102,117,110,99] with
         | true =>
          have d9:(E.word (n8:Nat)==[102,117,110,99])=true:=h9;simp only [h9,Bool.true_or,Bool.or_true,Bool.false_or,Bool.or_false,Bool.or_self,Bool.false_eq_true,if_true,if_false] at H8;have HLT:=hid (gA h9);clear h9;go_wp2_with fail;refine cA H8 ?_;intro w9 H9;clear H8;go_wp2_with fail;refine iF (F:=.fn) H9 (hid (HA.out i Da)) Ch ⟨rfl,rfl⟩ (fun _ _ h=>⟨rfl,h⟩) ?_;intro q10 u10 n10 w10 H10;clear H9;go_wp2_with (at_builtin;refine iC rfl _ _ rfl H10 HM.out.fr.size rfl rfl Da ?_);intro v11 w11 H11;clear H10;go_wp2_with fail;refine FA H11 (fun _ _ h=>⟨rfl,h⟩) ?_;intro n12 w12 H12;clear H11;go_wp2_with fail;go_roundg i
          case measure=>omega
          case rel=>exact⟨n12,_,_,Cv,H12⟩
         | false =>
          have d9:(E.word (n8:Nat)==[102,117,110,99])=false:=h9;simp only [h9,Bool.true_or,Bool.or_true,Bool.false_or,Bool.or_false,Bool.or_self,Bool.false_eq_true,if_true,if_false] at H8;clear h9;go_wp2_with fail;refine cA H8 ?_;intro w9 H9;clear H8;go_wp2_with fail;refine VJ HM (k2:=2) H9 Da ?_;intro q10 w10 H10;clear H9 HM;go_wp2_with fail;refine (eA H10 Cm).mono ?_;rintro e wz ⟨rfl,HZ⟩;clear H10;go_wp2_with fail;go_ret;exact HZ.out
end
section
open Go.RowKit
variable {E:Ev}{S:AB}{c n:Nat}{g:Bool}{w:World}
theorem nE (w:World) (v:Value) (t:TypeId):(w.alloc (.cells #[v] t)).cell? ⟨w.heap.size,0,none⟩=some v:=by
 have h:=heap_alloc_new w (Obj.cells #[v] t);unfold World.cell?;rw [h]
 rfl
theorem Ans.fr {r:R Tr}{w0:World}{e:Ending}{w':World} (h:Ans E c g r w0 e w'):Fr [c] w0 w':=by
 cases r with
 | ok t m=>obtain⟨_,_,_,_,h⟩:=h;exact h
 | bad k=>exact h.2.2
 | out=>exact h.elim
variable {k B:Nat}
theorem LN (H:aB E S) (h:Rd E c n g w) (hX:w.cell? ⟨B,0,none⟩=some (.pointer (some ⟨c,0,none⟩))/\c < B) (hr:RD S n g≠.out) :
  Calls Tryz.prog 194 #[.pointer (some ⟨B,0,none⟩)] w (Ans E c g (RD S n g) w):=by
 have HD:=hid H;clear H;have H0:=Sx.start h hr rfl
 conv at H0=>arg 1;arg 8;unfold RD
 have HX:=hid hX;clear hX
 try simp only [bs,reduceCtorEq] at H0
 clear h hr;go_enter Tryz.func194,Tryz.ntmps194;have hbx1:=H0.out.fr.cell (a:=⟨B,0,none⟩) Cg HX.out.1;go_wp2_with fail;clear hbx1;refine yB H0 17 ?_;intro p w2 H3;clear H0;have hbx4:=H3.out.fr.cell (a:=⟨B,0,none⟩) Cg HX.out.1;go_wp2_with fail;clear hbx4;refine jA (F:=.names) H3 HD Ch ⟨rfl,rfl⟩ (fun _ _ h=>⟨rfl,h⟩) ?_;intro q7 t8 n6 w5 H9;clear H3;have hbx10:=H9.out.fr.cell (a:=⟨B,0,none⟩) Cg HX.out.1;go_wp2_with fail;have H11:=yC H9;clear H9
 go_region_held (fun w'=>w'.cell? ⟨B,0,none⟩=some (.pointer (some ⟨c,0,none⟩))) (first|(first|assumption|exact aA ((J' _ _).alloc (C' _) _) ‹_›)) (first|(go_at_call 185;refine jA (F:=.union) H11 HD Ch ⟨rfl,rfl⟩ (fun _ _ h=>⟨rfl,h⟩) ?_;intro q14 t15 n13 w12 H16;clear H11;have hbx17:=H16.out.fr.cell (a:=⟨B,0,none⟩) Cg HX.out.1)|(go_at_call 113;refine (eA H16 Cm).mono ?_;rintro e wz ⟨rfl,HZ⟩;clear H16;have hbx18:=(Ans.fr HZ.out).cell (a:=⟨B,0,none⟩) Cg HX.out.1))
 go_wp2_with fail;go_ret;exact HZ.out
theorem El.tparam (H:∀ j,j<=k->aB E (kA E.toEnv j)) (hX:w.cell? ⟨B,0,none⟩=some (.pointer (some ⟨c,0,none⟩))) (hcB:c < B):El E c g k w .tparam 194 #[] #[.pointer (some ⟨B,0,none⟩)]:=by
 refine⟨fun w1=>cF Ci _ _,Cm,fun j n1 w1 hj hR hF hr=>?_⟩;cases j with
 | zero=>exact absurd rfl hr
 | succ i=>exact LN (H i Cf) hR ⟨hF.cell (a:=⟨B,0,none⟩) Cn hX,hcB⟩ hr
theorem iO (H:∀ j,j<=k->aB E (kA E.toEnv j)) (hkk:k<=1099511627776) (h:Rd E c n g w) (hr:XC E.toEnv (kA E.toEnv k) n g≠.out) :
  Calls Tryz.prog 162 #[.pointer (some ⟨c,0,none⟩)] w (Ans E c g (XC E.toEnv (kA E.toEnv k) n g) w):=by
 have HA:=hid H;have HD:=hid (H k (C' _));clear H;have hB:=(J' w.heap.size w).alloc (C' _) (Obj.cells #[.pointer (some ⟨c,0,none⟩)] 54);have hbx:=nE w (.pointer (some ⟨c,0,none⟩)) 54;have HX:=hid (And.intro hbx h.lt);have HFB:=hid (lA c hB);have H0:=Sx.start (h.below hB) hr rfl
 conv at H0=>arg 1;arg 8;unfold XC
 try simp only [bs,reduceCtorEq] at H0
 clear h hr hB;go_enter Tryz.func162,Tryz.ntmps162;go_wp2_with fail;generalize w.alloc (.cells #[.pointer (some ⟨c,0,none⟩)] 54)=wB at *;generalize w.heap.size=B at *;clear hbx;refine yB H0 16 ?_;intro p w1 H2;clear H0;have hbx3:=H2.out.fr.cell (a:=⟨B,0,none⟩) Cg HX.out.1;obtain⟨_,_,_,hat4,_⟩:=H2.out.rd.cells;have hsm5:((n:Nat):Int)<=1099511627776:=C8
 have hwr:IntKind.i64.wrap (((n:Nat):Int)+1)=((n:Nat):Int)+1:=Cs
 go_wp2_with fail;have H6:=yC H2;clear H2;cases h7:E.is (n+1) [93] with
 | true =>
  simp only [h7,bs,reduceCtorEq] at H6;have d9:(E.word (((n:Nat):Int)+1)==[93])=true:=E9
  go_region_held3 (fun w'=>w'.cell? ⟨B,0,none⟩=some (.pointer (some ⟨c,0,none⟩))/\w'.cell? ⟨c,3,none⟩=some (.int .i64 ((n:Nat):Int))) (first|(refine⟨?_,?_⟩;all_goals (first|assumption|exact aA ((J' _ _).alloc (C' _) _) ‹_›))|(go_split_ands;refine⟨?_,?_⟩;all_goals (first|assumption|exact aA ((J' _ _).alloc (C' _) _) ‹_›))) (first|(go_at_call 29;refine OA H6 _ ?_;intro w8 H10;clear H6;have hbx11:=H10.out.fr.cell (a:=⟨B,0,none⟩) Cg HX.out.1;obtain⟨_,_,_,hat12,_⟩:=H10.out.rd.cells))
  have HLTh7:Hid (n < E.l.length):=hid (by have:=gA h7;omega);have HYh7:=hid h7;clear h7;have hbx13:=H10.out.fr.cell (a:=⟨B,0,none⟩) Cg HX.out.1;obtain⟨_,_,_,hat16,_⟩:=H10.out.rd.cells;have hsm17:((n:Nat):Int)<=1099511627776:=Eh
  have hfz15:=H10.out.rd.free 3;have H14:=ZA H10 HLTh7;clear H10;obtain⟨n18,hm⟩:∃ m,m=n+1:=⟨_,rfl⟩;simp only [<- hm] at H14;have HMn18:=hid hm;clear hm;have hbx20:=H14.out.fr.cell (a:=⟨B,0,none⟩) Cg HX.out.1;go_wp2_with fail;generalize (w8.setCell ⟨c,3,none⟩ (.int .i64 (((n:Nat):Int)+1)))=w19 at *;clear hbx13 hat16 hsm17 hfz15 hbx20
  try simp only [show (((n:Nat):Int)+1)=((n18:Nat):Int) from by have:=HMn18.out;omega] at H14
  exact rG H14 (fun _ _ h=>⟨rfl,h.behind HFB.out⟩)
 | false =>
  simp only [h7,bs,reduceCtorEq] at H6;have d22:(E.word (((n:Nat):Int)+1)==[93])=false:=E9
  go_region_held3 (fun w'=>w'.cell? ⟨B,0,none⟩=some (.pointer (some ⟨c,0,none⟩))/\w'.cell? ⟨c,3,none⟩=some (.int .i64 ((n:Nat):Int))) (first|(refine⟨?_,?_⟩;all_goals (first|assumption|exact aA ((J' _ _).alloc (C' _) _) ‹_›))|(go_split_ands;refine⟨?_,?_⟩;all_goals (first|assumption|exact aA ((J' _ _).alloc (C' _) _) ‹_›))) (first|(go_at_call 29;refine OA H6 _ ?_;intro w21 H23;clear H6;have hbx24:=H23.out.fr.cell (a:=⟨B,0,none⟩) Cg HX.out.1;obtain⟨_,_,_,hat25,_⟩:=H23.out.rd.cells))
  clear h7;have hbx26:=H23.out.fr.cell (a:=⟨B,0,none⟩) Cg HX.out.1;go_wp2_with fail;clear hbx26;refine xG H23 hkk (El.tparam HA.out (H23.out.fr.cell (a:=⟨B,0,none⟩) Cg HX.out.1) HX.out.2) (fun _ _ h=>⟨rfl,h.behind HFB.out⟩) ?_;intro v29 r30 t31 n28 w27 hl H32;have HLH32:=hid (Ak hl hkk);clear hl;have hbx33:=H32.out.fr.cell (a:=⟨B,0,none⟩) Cg HX.out.1;go_wp2_with fail;clear hbx33;refine FA H32 (fun _ _ h=>⟨rfl,h.behind HFB.out⟩) ?_;intro n35 w34 H36;clear H32;have hbx37:=H36.out.fr.cell (a:=⟨B,0,none⟩) Cg HX.out.1;go_wp2_with fail;clear hbx37;refine (NG H23 H36 (by have:=HLH32.out;simp;omega)).mono ?_;rintro e wz ⟨rfl,HA⟩;clear H36;go_wp2_with fail;go_ret;exact HA.out.behind HFB.out
end
section
open Go.RowKit
variable {E:Ev}{S:AB}{c n:Nat}{g:Bool}{w:World}
variable {k B:Nat}
theorem nS (h:Rd E c n g w) (f:FuncId) (cap:Array Value) (hcf:∀ w1,Sem.run Tryz.prog (callFunc f (#[]++cap)) w1=.ok (.enter f (#[]++cap)) w1) {r:R Tr}
  (H:∀ w1,Rd E c n false w1->Fr [c] w w1->Calls Tryz.prog f (#[]++cap) w1 (Ans E c false r w1)) :
  Calls Tryz.prog 102 #[.pointer (some ⟨c,0,none⟩),.func (.func f) #[] cap] w (Ans E c g r w) :=
 (GG h f #[] cap hcf r (fun _=>True) w (Fr.refl _ _) h.lt (fun w1 hR hF=>(H w1 hR hF).mono (fun e w' hA=>⟨fun _ _=>trivial,hA.behind hF⟩))).mono (fun e w' hA=>hA.2)
theorem iL (H:∀ j,j<=k->aB E (kA E.toEnv j)) (hkk:k<=1099511627776) (h:Rd E c n false w) (hX:w.cell? ⟨B,0,none⟩=some (.pointer (some ⟨c,0,none⟩))/\c < B) (hr:OB E.toEnv (kA E.toEnv k) n≠.out) :
  Calls Tryz.prog 246 #[.pointer (some ⟨B,0,none⟩)] w (Ans E c false (OB E.toEnv (kA E.toEnv k) n) w):=by
 have HA:=hid H;have HD:=hid (H k (C' _));clear H;have H0:=Sx.start h hr rfl
 conv at H0=>arg 1;arg 8;unfold OB
 have HX:=hid hX;clear hX
 try simp only [bs,reduceCtorEq] at H0
 clear h hr;go_enter Tryz.func246,Tryz.ntmps246;have hbx1:=H0.out.fr.cell (a:=⟨B,0,none⟩) Cg HX.out.1;go_wp2_with fail;have H2:=yC H0;clear H0
 go_region_held (fun w'=>w'.cell? ⟨B,0,none⟩=some (.pointer (some ⟨c,0,none⟩))) (first|(first|assumption|exact aA ((J' _ _).alloc (C' _) _) ‹_›)) (first|(go_at_call 160;refine xG H2 hkk (El.meth HA.out .element Ch Cm Ci) (fun _ _ h=>⟨rfl,h⟩) ?_;intro v5 r6 t7 n4 w3 hl H8;have HLH8:=hid (Ak hl hkk);clear hl;have hbx9:=H8.out.fr.cell (a:=⟨B,0,none⟩) Cg HX.out.1)|(go_at_call 111;refine LE (k2:=12) H8 (by have:=HLH8.out;simpa using this) ?_;intro q11 w10 H12;clear H8;have hbx13:=H12.out.fr.cell (a:=⟨B,0,none⟩) Cg HX.out.1))
 have hbx14:=H12.out.fr.cell (a:=⟨B,0,none⟩) Cg HX.out.1;go_wp2_with fail;clear hbx14;refine FA H12 (fun _ _ h=>⟨rfl,h⟩) ?_;intro n16 w15 H17;clear H12;have hbx18:=H17.out.fr.cell (a:=⟨B,0,none⟩) Cg HX.out.1;go_wp2_with fail;clear hbx18;go_ret;exact (RE (rs:=[]) (us:=[]) H17 H2.out.fr.size)
theorem EM (H:∀ j,j<=k->aB E (kA E.toEnv j)) (hkk:k<=1099511627776) (h:Rd E c n g w) (hr:OB E.toEnv (kA E.toEnv k) n≠.out) :
  Calls Tryz.prog 218 #[.pointer (some ⟨c,0,none⟩)] w (Ans E c g (OB E.toEnv (kA E.toEnv k) n) w):=by
 have HA:=hid H;have HD:=hid (H k (C' _));clear H;have hB:=(J' w.heap.size w).alloc (C' _) (Obj.cells #[.pointer (some ⟨c,0,none⟩)] 54);have hbx:=nE w (.pointer (some ⟨c,0,none⟩)) 54;have HX:=hid (And.intro hbx h.lt);have HFB:=hid (lA c hB);have H0:=Sx.start (h.below hB) hr rfl
 skip
 try simp only [bs,reduceCtorEq] at H0
 clear h hr hB;go_enter Tryz.func218,Tryz.ntmps218;go_wp2_with fail;generalize w.alloc (.cells #[.pointer (some ⟨c,0,none⟩)] 54)=wB at *;generalize w.heap.size=B at *;clear hbx;refine pG H0 (fun hr=>nS H0.out.rd 246 #[.pointer (some ⟨B,0,none⟩)] (fun _=>cF Ci _ _) (fun w1 hR hF=>iL HA.out hkk hR ⟨hF.cell (a:=⟨B,0,none⟩) Cg (H0.out.fr.cell (a:=⟨B,0,none⟩) Cg HX.out.1),HX.out.2⟩ hr)) (fun _ _ h=>⟨rfl,h.behind HFB.out⟩) ?_;intro q wz HA;clear H0;go_wp2_with fail;go_ret;exact HA.out.behind HFB.out
end
