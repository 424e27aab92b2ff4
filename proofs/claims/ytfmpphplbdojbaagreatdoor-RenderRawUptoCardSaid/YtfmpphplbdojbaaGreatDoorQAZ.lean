import Derived.Test.YtfmpphplbdojbaaGreatDoorQAY
namespace Go.Proofs.YtfmpphplbdojbaaGreatDoor
open Lib(hid)
set_option linter.all false
set_option maxHeartbeats 40000000
set_option maxRecDepth 100000
section
open Go.RowKit
variable {E:Ev}{S:AB}{c n k:Nat}{g:Bool}{w w0 w1 w2:World}{p:Nat}{kd:UInt8}{wd:Int}{f t:Nat}{kv v:Value}{ps0:List Nat}{ts0:List Tr}{ps:List Nat}{ts:List Tr}{rs:List Nat}{us:List Tr}{T X:R Tr}
def YY (E:Ev) (D:Nat→Prop) (u:Tr) (w:World) (e:Ending) (w':World):Prop :=
 Below w.heap.size w w'∧match asked E.toEnv u with
 | some (a,y)=>∃ pa py,e=.returned (.tuple #[.pointer (some ⟨pa,0,none⟩),.pointer (some ⟨py,0,none⟩)])∧nA w' (fun b=>D b∨within w.heap.size w'.heap.size b) pa a∧nA w' (fun b=>D b∨within w.heap.size w'.heap.size b) py y
 | none=>e=.returned (.tuple #[.pointer none,.pointer none])
theorem ST {E:Env}{u x:Tr} (h1:u.kind=50) (hk:u.kids=[x]) (h2:x.kind≠33):asked E u=none:=by
 unfold asked;rw [h1,hk]
 show (match x.kind,x.kids with|33,[y]=>some (Tr.mk 0 (-1) u.fr u.fr [],y)|_,_=>none)=none
 split
 ·rename_i h _;exact absurd h h2
 ·rfl
theorem FR {E:Env}{u x y:Tr} (h1:u.kind=50) (hk:u.kids=[x]) (h2:x.kind=33) (h3:x.kids=[y]):asked E u=some (.mk 0 (-1) u.fr u.fr [],y):=by
 unfold asked;rw [h1,hk]
 show (match x.kind,x.kids with|33,[y]=>some (Tr.mk 0 (-1) u.fr u.fr [],y)|_,_=>none)=_
 rw [h2,h3]
 rfl
theorem aW {E:Env}{u:Tr} (h1:u.kind≠50) (h2:u.kind≠53):asked E u=none:=by
 unfold asked;split
 ·rename_i h _;exact absurd h h1
 ·rename_i h _;exact absurd h h2
 ·rfl
theorem OS {E:Env}{u l r:Tr} (h1:u.kind=53) (hk:u.kids=[l,r]):asked E u=if E.word u.word=[58,61] then (match l.kids,r.kids with
    | [a],[b]=>if a.kind=26∧b.kind=33 then (match b.kids with|[y]=>some (a,y)|_=>none) else none
    | _,_=>none) else none:=by
 unfold asked;rw [h1,hk]
 rfl
theorem WM {D:Nat→Prop}{q:Nat}{u:Tr} (hr:Rd E c n g w) (hD:∀ b,D b→b < w.heap.size) (h:nA w D q u) (hs:Sh u):Calls Tryz.prog 251 #[.pointer (some ⟨c,0,none⟩),.pointer (some ⟨q,0,none⟩)] w (YY E D u w):=by
 obtain⟨_,h0,h1,h2,_,_⟩:=nA.cells h;cases a50:(u.kind==50) with
 | true =>
  have d50:((u.kind.toNat:Int)==50)=true:=by rw [gS];exact a50
  have d53:((u.kind.toNat:Int)==53)=false:=by rw [qV,eq_of_beq a50];rfl
  obtain⟨x,hk⟩:=Sh.one hs (by rw [eq_of_beq a50]);obtain⟨b9,o9,c9,px,k4,k5,ht⟩:=nA.first h hk;obtain⟨_,x0,_,_,_,_⟩:=nA.cells ht;cases a33:(x.kind==33) with
  | false =>
   have d33:((x.kind.toNat:Int)==33)=false:=by rw [MS];exact a33
   have HP:=hid (ST (E:=E.toEnv) (eq_of_beq a50) hk (by simpa using a33));clear a50 a33 hs h ht hk hr hD;go_enter Tryz.func251,Tryz.ntmps251;go_wp2_with fail
   all_goals (go_ret2;exact⟨Below.refl _ _,by rw [HP.out];rfl⟩)
  | true =>
   have d33:((x.kind.toNat:Int)==33)=true:=by rw [MS];exact a33
   obtain⟨y,hk2⟩:=Sh.one (Shs.mem (t:=x) hs.kids (by rw [hk];simp)) (by rw [eq_of_beq a33];rfl);obtain⟨b8,o8,c8,py,k6,k7,ht2⟩:=nA.first ht hk2;have HP:=hid (FR (E:=E.toEnv) (eq_of_beq a50) hk (eq_of_beq a33) hk2);have HT:=hid (And.intro hD ht2);clear a50 a33 hs h ht ht2 hk hk2 hr hD;go_enter Tryz.func251,Tryz.ntmps251;go_wp2_with fail
   go_region_held3 (fun w'=>w'.cell? ⟨q,2,none⟩=some (.int .i64 (u.fr:Int))∧w'.cell? ⟨q,4,none⟩=some (.slice (some ⟨b9,o9,none⟩) (0+1) c9)∧w'.cell? ⟨b9,o9,none⟩=some (.pointer (some ⟨px,0,none⟩))∧w'.cell? ⟨px,4,none⟩=some (.slice (some ⟨b8,o8,none⟩) (0+1) c8)∧w'.cell? ⟨b8,o8,none⟩=some (.pointer (some ⟨py,0,none⟩))) (first|(refine⟨?_,?_,?_,?_,?_⟩;all_goals (first|assumption|exact aA ((Below.refl _ _).alloc (Nat.le_refl _) _) ‹_›))|(go_split_ands;refine⟨?_,?_,?_,?_,?_⟩;all_goals (first|assumption|exact aA ((Below.refl _ _).alloc (Nat.le_refl _) _) ‹_›))) (fail)
   go_wp2_with fail;go_ret2;obtain⟨hD,ht2⟩:=HT.out;have hB:=(Below.refl w.heap.size w).alloc (Nat.le_refl _) (Obj.cells #[.int .u8 0,.int .i64 (-1),.int .i64 (u.fr:Int),.int .i64 (u.fr:Int),.slice none 0 0] 61);refine⟨hB.drew,?_⟩;rw [HP.out];refine⟨w.heap.size,py,rfl,⟨.inr ⟨Nat.le_refl _,by simp⟩,none,0,[],heap_alloc_new w _,.inl rfl,trivial⟩,?_⟩;exact nA.kept (fun b hb=>hB.drew.block b (hD b hb)) (fun b hb=>Or.inl hb) py y ht2
 | false =>
  have d50:((u.kind.toNat:Int)==50)=false:=by rw [gS];exact a50
  cases a53:(u.kind==53) with
  | false =>
   have d53:((u.kind.toNat:Int)==53)=false:=by rw [qV];exact a53
   have HP:=hid (aW (E:=E.toEnv) (u:=u) (by simpa using a50) (by simpa using a53));clear a50 a53 hs h hr hD;go_enter Tryz.func251,Tryz.ntmps251;go_wp2_with fail
   all_goals (go_ret2;exact⟨Below.refl _ _,by rw [HP.out];rfl⟩)
  | true =>
   have d53:((u.kind.toNat:Int)==53)=true:=by rw [qV];exact a53
   obtain⟨l,r,hk⟩:=Sh.two hs (by rw [eq_of_beq a53];rfl);have has:=OS (E:=E.toEnv) (eq_of_beq a53) hk;have HW:=hid (BH E c u.word w hr.cells.1 hr.cells.2.1 hr.lie);cases hw:(E.word u.word==[58,61]) with
   | false =>
    rw [if_neg (by intro e;rw [e] at hw;exact absurd hw (by decide))] at has;have HP:=hid has;clear a50 a53 hs h hr hD has hk;go_enter Tryz.func251,Tryz.ntmps251;go_wp2_with fail;refine HW.out.mono ?_;rintro e w2 ⟨rfl,hb⟩;have HB:=hid hb;clear hb;go_wp2_with fail
    all_goals (go_ret2;exact⟨HB.out,by rw [HP.out];rfl⟩)
   | true =>
    rw [if_pos (eq_of_beq hw)] at has;have hls:=Shs.mem (t:=l) hs.kids (by rw [hk];simp);have hrs:=Shs.mem (t:=r) hs.kids (by rw [hk];simp);have HH:=hid (And.intro h (And.intro hD (And.intro hk (And.intro hls (And.intro hrs has)))));clear a50 a53 hs h hr hD hk hls hrs has;go_enter Tryz.func251,Tryz.ntmps251;go_wp2_with fail;refine HW.out.mono ?_;rintro e w2 ⟨rfl,hb⟩;have HB:=hid hb;obtain⟨h,hD,hk,hls,hrs,has⟩:=HH.out;have hT:=nA.kept (fun b hd=>hb.block b (hD b hd)) (fun b hd=>hd) q u h;clear h;obtain⟨b9,o9,c9,k4,hn⟩:=nA.nth hT (by rw [hk];simp);rw [hk] at k4 hn;obtain⟨pl,k5,hl⟩:=hn 0 l rfl;obtain⟨pr,k6,hrr⟩:=hn 1 r rfl;simp only [List.length_cons,List.length_nil,Nat.zero_add,Nat.add_zero] at k4 k5;clear hn hT hb;obtain⟨_,_,_,_,_,kl,cl,psl,l4,_,_⟩:=nA.cells hl;obtain⟨_,_,_,_,_,kr,cr,psr,r4,_,_⟩:=nA.cells hrr;rcases hlk:l.kids with _|⟨a,_|⟨a2,ra⟩⟩
    ·rw [hlk] at l4 has;have HP:=hid (has.trans (by rfl:_=none));clear hk hls hrs hD hl hrr has hlk;go_wp2_with fail
     all_goals (go_ret2;exact⟨HB.out,by rw [HP.out];rfl⟩)
    ·rw [hlk] at has;rcases hrk:r.kids with _|⟨b,_|⟨b2,rb⟩⟩
     ·rw [hrk] at r4 has;rw [hlk] at l4;have HP:=hid (has.trans (by rfl:_=none));clear hk hls hrs hD hl hrr has hlk hrk;go_wp2_with fail
      all_goals (go_ret2;exact⟨HB.out,by rw [HP.out];rfl⟩)
     ·rw [hrk] at has;obtain⟨b8,o8,c8,pa,l5,l6,ha⟩:=nA.first hl hlk;obtain⟨b7,o7,c7,pb,r5,r6,hb⟩:=nA.first hrr hrk;simp only [List.length_nil,Nat.zero_add] at l5 r5;clear l4 r4;obtain⟨_,a0,_,_,_,_⟩:=nA.cells ha;obtain⟨_,b0,_,_,_,_⟩:=nA.cells hb;have hbs:=Shs.mem (t:=b) hrs.kids (by rw [hrk];simp);change asked E.toEnv u=(if a.kind=26∧b.kind=33 then (match b.kids with|[y]=>some (a,y)|_=>none) else none) at has;cases a26:(a.kind==26) with
      | false =>
       have d26:((a.kind.toNat:Int)==26)=false:=by rw [xN];exact a26
       rw [if_neg (by intro e;rw [e.1] at a26;exact absurd a26 (by decide))] at has;have HP:=hid has;clear hbs ha hb a26 hk hls hrs hD hl hrr has hlk hrk;go_wp2_with fail
       go_region_held3 (fun w'=>w'.cell? ⟨q,4,none⟩=some (.slice (some ⟨b9,o9,none⟩) 2 c9)∧w'.cell? ⟨b9,o9,none⟩=some (.pointer (some ⟨pl,0,none⟩))∧w'.cell? ⟨b9,o9+1,none⟩=some (.pointer (some ⟨pr,0,none⟩))∧w'.cell? ⟨pl,4,none⟩=some (.slice (some ⟨b8,o8,none⟩) 1 c8)∧w'.cell? ⟨b8,o8,none⟩=some (.pointer (some ⟨pa,0,none⟩))∧w'.cell? ⟨pr,4,none⟩=some (.slice (some ⟨b7,o7,none⟩) 1 c7)∧w'.cell? ⟨b7,o7,none⟩=some (.pointer (some ⟨pb,0,none⟩))) (first|(refine⟨?_,?_,?_,?_,?_,?_,?_⟩;all_goals assumption)|(go_split_ands;refine⟨?_,?_,?_,?_,?_,?_,?_⟩;all_goals assumption)) (fail)
       go_wp2_with fail
       all_goals (go_ret2;exact⟨HB.out.drew,by rw [HP.out];rfl⟩)
      | true =>
       have d26:((a.kind.toNat:Int)==26)=true:=by rw [xN];exact a26
       cases b33:(b.kind==33) with
       | false =>
        have d33:((b.kind.toNat:Int)==33)=false:=by rw [MS];exact b33
        rw [if_neg (by intro e;rw [e.2] at b33;exact absurd b33 (by decide))] at has;have HP:=hid has;clear hbs ha hb a26 b33 hk hls hrs hD hl hrr has hlk hrk;go_wp2_with fail
        go_region_held3 (fun w'=>w'.cell? ⟨q,4,none⟩=some (.slice (some ⟨b9,o9,none⟩) 2 c9)∧w'.cell? ⟨b9,o9,none⟩=some (.pointer (some ⟨pl,0,none⟩))∧w'.cell? ⟨b9,o9+1,none⟩=some (.pointer (some ⟨pr,0,none⟩))∧w'.cell? ⟨pl,4,none⟩=some (.slice (some ⟨b8,o8,none⟩) 1 c8)∧w'.cell? ⟨b8,o8,none⟩=some (.pointer (some ⟨pa,0,none⟩))∧w'.cell? ⟨pr,4,none⟩=some (.slice (some ⟨b7,o7,none⟩) 1 c7)∧w'.cell? ⟨b7,o7,none⟩=some (.pointer (some ⟨pb,0,none⟩))) (first|(refine⟨?_,?_,?_,?_,?_,?_,?_⟩;all_goals assumption)|(go_split_ands;refine⟨?_,?_,?_,?_,?_,?_,?_⟩;all_goals assumption)) (fail)
        go_wp2_with fail
        all_goals (go_ret2;exact⟨HB.out.drew,by rw [HP.out];rfl⟩)
       | true =>
        have d33:((b.kind.toNat:Int)==33)=true:=by rw [MS];exact b33
        rw [if_pos ⟨eq_of_beq a26,eq_of_beq b33⟩] at has;obtain⟨y,hbk⟩:=Sh.one hbs (by rw [eq_of_beq b33];rfl);rw [hbk] at has;obtain⟨b6,o6,c6,py,b5,b66,hy⟩:=nA.first hb hbk;simp only [List.length_nil,Nat.zero_add] at b5;have HP:=hid (And.intro has (And.intro ha hy));clear hbs ha hb hy hbk a26 b33 hk hls hrs hD hl hrr has hlk hrk;go_wp2_with fail
        go_region_held3 (fun w'=>w'.cell? ⟨q,4,none⟩=some (.slice (some ⟨b9,o9,none⟩) 2 c9)∧w'.cell? ⟨b9,o9,none⟩=some (.pointer (some ⟨pl,0,none⟩))∧w'.cell? ⟨b9,o9+1,none⟩=some (.pointer (some ⟨pr,0,none⟩))∧w'.cell? ⟨pl,4,none⟩=some (.slice (some ⟨b8,o8,none⟩) 1 c8)∧w'.cell? ⟨b8,o8,none⟩=some (.pointer (some ⟨pa,0,none⟩))∧w'.cell? ⟨pr,4,none⟩=some (.slice (some ⟨b7,o7,none⟩) 1 c7)∧w'.cell? ⟨b7,o7,none⟩=some (.pointer (some ⟨pb,0,none⟩))) (first|(refine⟨?_,?_,?_,?_,?_,?_,?_⟩;all_goals assumption)|(go_split_ands;refine⟨?_,?_,?_,?_,?_,?_,?_⟩;all_goals assumption)) (fail)
        go_wp2_with fail
        go_region_held3 (fun w'=>w'.cell? ⟨pb,4,none⟩=some (.slice (some ⟨b6,o6,none⟩) 1 c6)∧w'.cell? ⟨b6,o6,none⟩=some (.pointer (some ⟨py,0,none⟩))) (first|(refine⟨?_,?_⟩;all_goals assumption)|(go_split_ands;refine⟨?_,?_⟩;all_goals assumption)) (fail)
        go_wp2_with fail;go_ret2;refine⟨HB.out.drew.drew,?_⟩;rw [HP.out.1];exact⟨pa,py,rfl,nA.kept (w:=w2) (w':=w2.drew.drew) (fun _ _=>rfl) (fun b hb=>Or.inl hb) pa a HP.out.2.1,nA.kept (w:=w2) (w':=w2.drew.drew) (fun _ _=>rfl) (fun b hb=>Or.inl hb) py y HP.out.2.2⟩
     ·rw [hrk] at r4 has;rw [hlk] at l4;have HP:=hid (has.trans (by rfl:_=none));have d9:((((b::b2::rb).length:Nat):Int)==1)=false:=by simp;omega
      generalize (b::b2::rb).length=len9 at r4 d9;clear hk hls hrs hD hl hrr has hlk hrk;go_wp2_with fail
      all_goals (go_ret2;exact⟨HB.out,by rw [HP.out];rfl⟩)
    ·rw [hlk] at l4 has;have HP:=hid (has.trans (by rfl:_=none));have d9:((((a::a2::ra).length:Nat):Int)==1)=false:=by simp;omega
     generalize (a::a2::ra).length=len9 at l4 d9;clear hk hls hrs hD hl hrr has hlk;go_wp2_with fail
     all_goals (go_ret2;exact⟨HB.out,by rw [HP.out];rfl⟩)
end
end Go.Proofs.YtfmpphplbdojbaaGreatDoor
