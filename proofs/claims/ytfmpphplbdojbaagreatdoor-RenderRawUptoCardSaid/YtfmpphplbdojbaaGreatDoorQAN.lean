import Derived.Test.YtfmpphplbdojbaaGreatDoorQAM
namespace Go.Proofs.YtfmpphplbdojbaaGreatDoor
open Lib(hid)
set_option linter.all false
set_option maxHeartbeats 40000000
set_option maxRecDepth 100000
section
open Go.RowKit
variable {E:Ev}{S:AB}{c n k:Nat}{g:Bool}{w w0 w1 w2:World}{v:Value}{ps:List Nat}{ts:List Tr}{rs:List Nat}{us:List Tr}{T X:R Tr}
theorem CM (H:∀ j,j≤k→aB E (kA E.toEnv j)) (hkk:k≤1000000000000) (h:Rd E c n g w) (hr:(kA E.toEnv k).t (.stmtsMore []) n g≠.out) :
  Calls Tryz.prog 105 #[.pointer (some ⟨c,0,none⟩)] w (Ans E c g ((kA E.toEnv k).t (.stmtsMore []) n g) w):=by
 have HA:=hid H;clear H;have H0:=iK (Sx.start h hr rfl);clear h hr;go_enter Tryz.func105,Tryz.ntmps105;go_wp2_with fail
 go_loopg [3] k (fun j v wr=>tL E c g w ((kA E.toEnv k).t (.stmtsMore []) n g) F.stmtsMore k j v wr)
 case atStart=>exact⟨n,[],[],by simp,H0⟩
 case round =>
  clear H0;obtain⟨n2,acc,ps,hl,H3⟩:=hrel;have HL:=hid hl;clear hl;rcases gk with _|j
  ·exact absurd H3.out.eq H3.out.ne
  ·replace H3:Hid (Sx _ _ _ _ _ _ _ (dC E.toEnv (kA E.toEnv j) acc n2 g) _):=H3
   conv at H3=>arg 1;arg 8;unfold dC
   cases h1:E.is n2 [125] with
   | true =>
    have d1:(E.word (n2:Nat)==[125])=true:=h1;simp only [h1,Bool.true_or,Bool.or_true,Bool.false_or,Bool.or_false,Bool.or_self,Bool.false_eq_true,if_true,if_false] at H3;clear h1;go_wp2_with fail;refine cA H3 ?_;intro w4 H4;clear H3;go_wp2_with fail;refine LE (k2:=13) H4 (by have:=HL.out;omega) ?_;intro q6 w6 H6;clear H4;go_wp2_with fail;go_ret;exact RE (rs:=[]) (us:=[]) H6
   | false =>
    have d1:(E.word (n2:Nat)==[125])=false:=h1;simp only [h1,Bool.true_or,Bool.or_true,Bool.false_or,Bool.or_false,Bool.or_self,Bool.false_eq_true,if_true,if_false] at H3;clear h1;cases h2:E.is n2 [99,97,115,101] with
    | true =>
     have d2:(E.word (n2:Nat)==[99,97,115,101])=true:=h2;simp only [h2,Bool.true_or,Bool.or_true,Bool.false_or,Bool.or_false,Bool.or_self,Bool.false_eq_true,if_true,if_false] at H3;clear h2;go_wp2_with fail;refine cA H3 ?_;intro w4 H4;clear H3;go_wp2_with fail;refine LE (k2:=13) H4 (by have:=HL.out;omega) ?_;intro q6 w6 H6;clear H4;go_wp2_with fail;go_ret;exact RE (rs:=[]) (us:=[]) H6
    | false =>
     have d2:(E.word (n2:Nat)==[99,97,115,101])=false:=h2;simp only [h2,Bool.true_or,Bool.or_true,Bool.false_or,Bool.or_false,Bool.or_self,Bool.false_eq_true,if_true,if_false] at H3;clear h2;cases h3:E.is n2 [100,101,102,97,117,108,116] with
     | true =>
      have d3:(E.word (n2:Nat)==[100,101,102,97,117,108,116])=true:=h3;simp only [h3,Bool.true_or,Bool.or_true,Bool.false_or,Bool.or_false,Bool.or_self,Bool.false_eq_true,if_true,if_false] at H3;clear h3;go_wp2_with fail;refine cA H3 ?_;intro w4 H4;clear H3;go_wp2_with fail;refine LE (k2:=13) H4 (by have:=HL.out;omega) ?_;intro q6 w6 H6;clear H4;go_wp2_with fail;go_ret;exact RE (rs:=[]) (us:=[]) H6
     | false =>
      have d3:(E.word (n2:Nat)==[100,101,102,97,117,108,116])=false:=h3;simp only [h3,Bool.true_or,Bool.or_true,Bool.false_or,Bool.or_false,Bool.or_self,Bool.false_eq_true,if_true,if_false] at H3;clear h3;cases h4:E.ended n2 with
      | true =>
       simp only [h4,Bool.true_or,Bool.or_true,Bool.false_or,Bool.or_false,Bool.or_self,Bool.false_eq_true,if_true,if_false] at H3;go_wp2_with fail;refine cA H3 ?_;intro w4 H4;clear H3;go_wp2_with fail;refine AD H4 true h4 ?_;intro w5 H5;clear H4 h4;go_wp2_with fail;refine LE (k2:=13) H5 (by have:=HL.out;omega) ?_;intro q6 w6 H6;clear H5;go_wp2_with fail;go_ret;exact RE (rs:=[]) (us:=[]) H6
      | false =>
       simp only [h4,Bool.true_or,Bool.or_true,Bool.false_or,Bool.or_false,Bool.or_self,Bool.false_eq_true,if_true,if_false] at H3;cases h5:E.is n2 [59] with
       | true =>
        have d5:(E.word (n2:Nat)==[59])=true:=h5;simp only [h5,Bool.true_or,Bool.or_true,Bool.false_or,Bool.or_false,Bool.or_self,Bool.false_eq_true,if_true,if_false] at H3;have HLT:=hid (gA h5);clear h5;go_wp2_with fail;refine cA H3 ?_;intro w4 H4;clear H3;go_wp2_with fail;refine AD H4 false h4 ?_;intro w5 H5;clear H4 h4;go_wp2_with fail;refine sS H5 49 ?_;intro q6 w6 H6;clear H5;go_wp2_with (at_builtin;refine iC rfl _ _ rfl H6 (Nat.le_refl _) rfl rfl (by have:=HL.out;omega) ?_);intro v7 w7 H7;clear H6;obtain⟨_,_,_,hat,_⟩:=H7.out.rd.cells;have hsm:((n2:Nat):Int)≤1099511627776:=by have:=H7.out.rd.at_;have:=H7.out.rd.lie.small;omega
        have hfz:=H7.out.rd.free 3;have H8:=ZA H7 HLT;clear H7;go_wp2_with fail;clear hat hsm hfz;go_roundg j
        case measure=>omega
        case rel=>exact⟨n2+1,_,_,by have:=HL.out;simp;omega,H8⟩
       | false =>
        have d5:(E.word (n2:Nat)==[59])=false:=h5;simp only [h5,Bool.true_or,Bool.or_true,Bool.false_or,Bool.or_false,Bool.or_self,Bool.false_eq_true,if_true,if_false] at H3;clear h5;go_wp2_with fail;refine cA H3 ?_;intro w4 H4;clear H3;go_wp2_with fail;refine AD H4 false h4 ?_;intro w5 H5;clear H4 h4;go_wp2_with fail;refine iF (F:=.stmt) H5 (hid (HA.out j (by have:=HL.out;omega))) (by decide) ⟨rfl,rfl⟩ (fun _ _ h=>⟨rfl,h⟩) ?_;intro q6 u6 n6 w6 H6;clear H5;cases h6:E.is n6 [125] with
        | true =>
         have d6:(E.word (n6:Nat)==[125])=true:=h6;simp only [h6,Bool.true_or,Bool.or_true,Bool.false_or,Bool.or_false,Bool.or_self,Bool.false_eq_true,if_true,if_false] at H6;clear h6;go_wp2_with (at_builtin;refine iC rfl _ _ rfl H6 (Nat.le_refl _) rfl rfl (by have:=HL.out;omega) ?_);intro v7 w7 H7;clear H6;go_wp2_with fail;refine cA H7 ?_;intro w8 H8;clear H7;go_wp2_with fail;go_roundg j
         case measure=>omega
         case rel=>exact⟨n6,_,_,by have:=HL.out;simp;omega,H8⟩
        | false =>
         have d6:(E.word (n6:Nat)==[125])=false:=h6;cases h7:E.ended n6 with
         | true =>
          simp only [h6,h7,Bool.true_or,Bool.or_true,Bool.false_or,Bool.or_false,Bool.or_self,Bool.false_eq_true,if_true,if_false] at H6;clear h6;go_wp2_with (at_builtin;refine iC rfl _ _ rfl H6 (Nat.le_refl _) rfl rfl (by have:=HL.out;omega) ?_);intro v7 w7 H7;clear H6;go_wp2_with fail;refine cA H7 ?_;intro w8 H8;clear H7;go_wp2_with fail;refine AD H8 true h7 ?_;intro w9 H9;clear H8 h7;go_wp2_with fail;go_roundg j
          case measure=>omega
          case rel=>exact⟨n6,_,_,by have:=HL.out;simp;omega,H9⟩
         | false =>
          simp only [h6,h7,Bool.true_or,Bool.or_true,Bool.false_or,Bool.or_false,Bool.or_self,Bool.false_eq_true,if_true,if_false] at H6;clear h6;go_wp2_with (at_builtin;refine iC rfl _ _ rfl H6 (Nat.le_refl _) rfl rfl (by have:=HL.out;omega) ?_);intro v7 w7 H7;clear H6;go_wp2_with fail;refine cA H7 ?_;intro w8 H8;clear H7;go_wp2_with fail;refine AD H8 false h7 ?_;intro w9 H9;clear H8 h7;go_wp2_with fail;refine FA H9 (fun _ _ h=>⟨rfl,h⟩) ?_;intro n10 w10 H10;clear H9;go_wp2_with fail;go_roundg j
          case measure=>omega
          case rel=>exact⟨n10,_,_,by have:=HL.out;simp;omega,H10⟩
end
section
open Go.RowKit
variable {E:Ev}{S:AB}{c n k:Nat}{g:Bool}{w w0 w1 w2:World}{v:Value}{ps:List Nat}{ts:List Tr}{rs:List Nat}{us:List Tr}{T X:R Tr}
def cO (E:Ev) (c:Nat) (g:Bool) (w wB:World) (T:R Tr) (mk:List Tr→F) (k j:Nat) (v:Value) (wr:World):Prop :=
 ∃ n acc ps,ps.length+j≤k+1∧Hid (Sx E c n g w (Rw E c wB v ps acc [] []) T ((kA E.toEnv j).t (mk acc) n g) wr)
theorem wT (H:∀ j,j≤k→aB E (kA E.toEnv j)) (hkk:k≤1000000000000) (h:Rd E c 0 g w) (hr:EF E.toEnv (kA E.toEnv k) 0 g≠.out) :
  Calls Tryz.prog 68 #[.pointer (some ⟨c,0,none⟩)] w (Ans E c g (EF E.toEnv (kA E.toEnv k) 0 g) w):=by
 have HA:=hid H;clear H;have H0:=Sx.start h hr rfl
 conv at H0=>arg 1;arg 8;unfold EF
 clear h hr;go_enter Tryz.func68,Tryz.ntmps68;go_wp2_with fail;refine yB H0 1 ?_;intro p w1 H1;clear H0;go_wp2_with fail;refine FA H1 (fun _ _ h=>⟨rfl,h⟩) ?_;intro n2 w2 H2;clear H1;go_wp2_with fail;refine lG H2 (fun _ _ h=>⟨rfl,h⟩) ?_;intro q3 t3 n3 w3 H3;clear H2;go_wp2_with fail;refine FA H3 (fun _ _ h=>⟨rfl,h⟩) ?_;intro n4 w4 HN;clear H3;have H4:=gX HN;go_wp2_with fail
 go_loopg [5] k (fun j v wr=>cO E c g w w4 (EF E.toEnv (kA E.toEnv k) 0 g) (F.fileImports t3) k j v wr)
 case atStart=>exact⟨n4,[],[],by simp,H4⟩
 case round =>
  clear H4;obtain⟨n5,acc,ps,hl,H5⟩:=hrel;have HL:=hid hl;clear hl;rcases gk with _|j
  ·exact absurd H5.out.eq H5.out.ne
  ·replace H5:Hid (Sx _ _ _ _ _ _ _ (lB E.toEnv (kA E.toEnv j) t3 acc n5 g) _):=H5
   conv at H5=>arg 1;arg 8;unfold lB
   cases h1:E.is n5 [105,109,112,111,114,116] with
   | true =>
    have d1:(E.word (n5:Nat)==[105,109,112,111,114,116])=true:=h1;simp only [h1,Bool.true_or,Bool.or_true,Bool.false_or,Bool.or_false,Bool.or_self,Bool.false_eq_true,if_true,if_false] at H5;have HLT:=hid (gA h1);clear h1;go_wp2_with fail;refine cA H5 ?_;intro w6 H6;clear H5;go_wp2_with fail;refine iH (F:=.group) H6 (hid (HA.out j (by have:=HL.out;omega))) (by decide) rfl HLT (fun _ _ h=>⟨rfl,h⟩) ?_;intro q7 u7 n7 w7 H7;clear H6;go_wp2_with (at_builtin;refine iC rfl _ _ rfl H7 HN.out.fr.size rfl rfl (by have:=HL.out;omega) ?_);intro v8 w8 H8;clear H7;go_wp2_with fail;refine FA H8 (fun _ _ h=>⟨rfl,h⟩) ?_;intro n9 w9 H9;clear H8;go_wp2_with fail;go_roundg j
    case measure=>omega
    case rel=>exact⟨n9,_,_,by have:=HL.out;simp;omega,H9⟩
   | false =>
    have d1:(E.word (n5:Nat)==[105,109,112,111,114,116])=false:=h1;simp only [h1,Bool.true_or,Bool.or_true,Bool.false_or,Bool.or_false,Bool.or_self,Bool.false_eq_true,if_true,if_false] at H5;clear h1;go_wp2_with fail;refine cA H5 ?_;intro w6 H6;clear H5;go_wp2_with fail;refine VJ HN (k2:=2) H6 (by have:=HL.out;omega) ?_;intro q7 w7 HM;clear H6 HN;have H7:=gX HM;have HJ:Hid (j≤k):=hid (by have:=HL.out;omega);clear HL;go_wp2_with fail
    go_loopg [6] j (fun j2 v wr=>cO E c g w w7 (EF E.toEnv (kA E.toEnv k) 0 g) (F.fileDecls t3 (xC 2 acc n5)) j j2 v wr)
    case atStart=>exact⟨n5,[],[],by simp,H7⟩
    case round =>
     clear H7;obtain⟨n8,acc2,ps2,hl,H8⟩:=hrel;have HL:=hid hl;clear hl;rcases gk with _|i
     ·exact absurd H8.out.eq H8.out.ne
     ·replace H8:Hid (Sx _ _ _ _ _ _ _ (eC E.toEnv (kA E.toEnv i) t3 (xC 2 acc n5) acc2 n8 g) _):=H8
      conv at H8=>arg 1;arg 8;unfold eC
      cases h6:E.is n8 [99,111,110,115,116] with
      | true =>
       have d6:(E.word (n8:Nat)==[99,111,110,115,116])=true:=h6;simp only [h6,Bool.true_or,Bool.or_true,Bool.false_or,Bool.or_false,Bool.or_self,Bool.false_eq_true,if_true,if_false] at H8;have HLT:=hid (gA h6);clear h6;go_wp2_with fail;refine cA H8 ?_;intro w9 H9;clear H8;go_wp2_with fail;refine iH (F:=.group) H9 (hid (HA.out i (by have:=HL.out;have:=HJ.out;omega))) (by decide) rfl HLT (fun _ _ h=>⟨rfl,h⟩) ?_;intro q10 u10 n10 w10 H10;clear H9;go_wp2_with (at_builtin;refine iC rfl _ _ rfl H10 HM.out.fr.size rfl rfl (by have:=HL.out;have:=HJ.out;omega) ?_);intro v11 w11 H11;clear H10;go_wp2_with fail;refine FA H11 (fun _ _ h=>⟨rfl,h⟩) ?_;intro n12 w12 H12;clear H11;go_wp2_with fail;go_roundg i
       case measure=>omega
       case rel=>exact⟨n12,_,_,by have:=HL.out;simp;omega,H12⟩
      | false =>
       have d6:(E.word (n8:Nat)==[99,111,110,115,116])=false:=h6;simp only [h6,Bool.true_or,Bool.or_true,Bool.false_or,Bool.or_false,Bool.or_self,Bool.false_eq_true,if_true,if_false] at H8;clear h6;cases h7:E.is n8 [118,97,114] with
       | true =>
        have d7:(E.word (n8:Nat)==[118,97,114])=true:=h7;simp only [h7,Bool.true_or,Bool.or_true,Bool.false_or,Bool.or_false,Bool.or_self,Bool.false_eq_true,if_true,if_false] at H8;have HLT:=hid (gA h7);clear h7;go_wp2_with fail;refine cA H8 ?_;intro w9 H9;clear H8;go_wp2_with fail;refine iH (F:=.group) H9 (hid (HA.out i (by have:=HL.out;have:=HJ.out;omega))) (by decide) rfl HLT (fun _ _ h=>⟨rfl,h⟩) ?_;intro q10 u10 n10 w10 H10;clear H9;go_wp2_with (at_builtin;refine iC rfl _ _ rfl H10 HM.out.fr.size rfl rfl (by have:=HL.out;have:=HJ.out;omega) ?_);intro v11 w11 H11;clear H10;go_wp2_with fail;refine FA H11 (fun _ _ h=>⟨rfl,h⟩) ?_;intro n12 w12 H12;clear H11;go_wp2_with fail;go_roundg i
        case measure=>omega
        case rel=>exact⟨n12,_,_,by have:=HL.out;simp;omega,H12⟩
       | false =>
        have d7:(E.word (n8:Nat)==[118,97,114])=false:=h7;simp only [h7,Bool.true_or,Bool.or_true,Bool.false_or,Bool.or_false,Bool.or_self,Bool.false_eq_true,if_true,if_false] at H8;clear h7;cases h8:E.is n8 [116,121,112,101] with
        | true =>
         have d8:(E.word (n8:Nat)==[116,121,112,101])=true:=h8;simp only [h8,Bool.true_or,Bool.or_true,Bool.false_or,Bool.or_false,Bool.or_self,Bool.false_eq_true,if_true,if_false] at H8;have HLT:=hid (gA h8);clear h8;go_wp2_with fail;refine cA H8 ?_;intro w9 H9;clear H8;go_wp2_with fail;refine iH (F:=.group) H9 (hid (HA.out i (by have:=HL.out;have:=HJ.out;omega))) (by decide) rfl HLT (fun _ _ h=>⟨rfl,h⟩) ?_;intro q10 u10 n10 w10 H10;clear H9;go_wp2_with (at_builtin;refine iC rfl _ _ rfl H10 HM.out.fr.size rfl rfl (by have:=HL.out;have:=HJ.out;omega) ?_);intro v11 w11 H11;clear H10;go_wp2_with fail;refine FA H11 (fun _ _ h=>⟨rfl,h⟩) ?_;intro n12 w12 H12;clear H11;go_wp2_with fail;go_roundg i
         case measure=>omega
         case rel=>exact⟨n12,_,_,by have:=HL.out;simp;omega,H12⟩
        | false =>
         have d8:(E.word (n8:Nat)==[116,121,112,101])=false:=h8;simp only [h8,Bool.true_or,Bool.or_true,Bool.false_or,Bool.or_false,Bool.or_self,Bool.false_eq_true,if_true,if_false] at H8;clear h8;cases h9:E.is n8 [102,117,110,99] with
         | true =>
          have d9:(E.word (n8:Nat)==[102,117,110,99])=true:=h9;simp only [h9,Bool.true_or,Bool.or_true,Bool.false_or,Bool.or_false,Bool.or_self,Bool.false_eq_true,if_true,if_false] at H8;have HLT:=hid (gA h9);clear h9;go_wp2_with fail;refine cA H8 ?_;intro w9 H9;clear H8;go_wp2_with fail;refine iF (F:=.fn) H9 (hid (HA.out i (by have:=HL.out;have:=HJ.out;omega))) (by decide) ⟨rfl,rfl⟩ (fun _ _ h=>⟨rfl,h⟩) ?_;intro q10 u10 n10 w10 H10;clear H9;go_wp2_with (at_builtin;refine iC rfl _ _ rfl H10 HM.out.fr.size rfl rfl (by have:=HL.out;have:=HJ.out;omega) ?_);intro v11 w11 H11;clear H10;go_wp2_with fail;refine FA H11 (fun _ _ h=>⟨rfl,h⟩) ?_;intro n12 w12 H12;clear H11;go_wp2_with fail;go_roundg i
          case measure=>omega
          case rel=>exact⟨n12,_,_,by have:=HL.out;simp;omega,H12⟩
         | false =>
          have d9:(E.word (n8:Nat)==[102,117,110,99])=false:=h9;simp only [h9,Bool.true_or,Bool.or_true,Bool.false_or,Bool.or_false,Bool.or_self,Bool.false_eq_true,if_true,if_false] at H8;clear h9;go_wp2_with fail;refine cA H8 ?_;intro w9 H9;clear H8;go_wp2_with fail;refine VJ HM (k2:=2) H9 (by have:=HL.out;have:=HJ.out;omega) ?_;intro q10 w10 H10;clear H9 HM;go_wp2_with fail;refine (eA H10 (by simp)).mono ?_;rintro e wz ⟨rfl,HZ⟩;clear H10;go_wp2_with fail;go_ret;exact HZ.out
end
end Go.Proofs.YtfmpphplbdojbaaGreatDoor
