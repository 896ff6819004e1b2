/- A part of the proof: It4, It5, It. -/
import Derived.Deep.DrawnRows
import Derived.Test.YtlafbbnikgcdlaaGreatDoorKb13
namespace Go.Proofs.YtlafbbnikgcdlaaGreatDoor
open Go.RowKit
open _root_.Go.Proofs.Tryz
set_option linter.all false
set_option maxHeartbeats 16000000
set_option maxRecDepth 100000
variable{p:Prop}
section
attribute [local go_sem ↓] Go.wp_at_zero Go.wp_at_succ
theorem nn14(h:p:=by
 have kqq63:=@Hz _ @nn171;exact qq63):p:=h
theorem nn99(h:p:=by
 refine hK5.out _ _ ?hS1060_2 (fun hHeld=>?hq1060_2)
 case hS1060_2=>exact u6
 clear hK5 K5
 (try simp only[Act.put,sX])
 refine Af (i:=6) (v:=?v1061_2) rfl kR kR kR (fun _ _ _ h=>h) (Or.inl ⟨by rfl,?hy1061_2⟩) aS ?hr1061_2
 case hy1061_2 =>
  exact qq9
 (try simp only[Act.put,sX])
 refine wpAnyH_done kR ?hr1062_2 _;refine Bi rfl ?hq1062_2;go_simp;refine hK.out _ _ ?hs1062_2;have kqq76:=@Hz _ @nn209;exact qq76):p:=h
theorem nn100(h:p:=by
 refine hK5.out _ _ ?hS1060_1 (fun hHeld=>?hq1060_1)
 case hS1060_1=>exact u6
 clear hK5 K5
 (try simp only[Act.put,sX])
 refine Af (i:=6) (v:=?v1061_1) rfl kR kR kR (fun _ _ _ h=>h) (Or.inl ⟨by rfl,?hy1061_1⟩) aS ?hr1061_1
 case hy1061_1 =>
  exact qq9
 (try simp only[Act.put,sX])
 refine wpAnyH_done kR ?hr1062_1 _;refine Bi rfl ?hq1062_1;go_simp;refine hK.out _ _ ?hs1062_1;have kqq76:=@Hz _ @nn208;exact qq76):p:=h
theorem nn101(h:p:=by
 refine hK5.out _ _ ?hS1060_0 (fun hHeld=>?hq1060_0)
 case hS1060_0=>exact u6
 clear hK5 K5
 (try simp only[Act.put,sX])
 refine Af (i:=6) (v:=?v1061_0) rfl kR kR kR (fun _ _ _ h=>h) (Or.inl ⟨by rfl,?hy1061_0⟩) aS ?hr1061_0
 case hy1061_0 =>
  exact qq9
 (try simp only[Act.put,sX])
 refine wpAnyH_done kR ?hr1062_0 _;refine Bi rfl ?hq1062_0;go_simp;refine hK.out _ _ ?hs1062_0;have kqq76:=@Hz _ @nn207;exact qq76):p:=h
theorem nn171(h:p:=by
 refine(may_no [116,114,121] P g c ts st t HT.out HB3.out x4 h4 HE.out).mono ?_;have kqq229:=@Hz _ @nn432;exact qq229):p:=h
theorem nn207(h:p:=by
 refine Bo (fun w'=>w'.cell? ⟨T,6,none⟩=some (.slice (some ⟨g9,0,none⟩) 2 cp9)) kR kR ?hS1063_0 (fun K hK hHeld=>?hr1063_0)
 case hS1063_0=>go_keep
 refine Af (i:=0) (v:=?v1064_0) rfl kR kR kR (fun _ _ _ h=>h) (Or.inl ⟨by rfl,?hy1064_0⟩) aS ?hr1064_0
 case hy1064_0 =>
  exact qq9
 (try simp only[Act.put,sX])
 refine Af (i:=1) (v:=?v1065_0) rfl kR kR kR (fun _ _ _ h=>h) (Or.inl ⟨by rfl,?hy1065_0⟩) aS ?hr1065_0
 case hy1065_0 =>
  exact qq9
 (try simp only[Act.put,sX])
 refine Af (i:=2) (v:=?v1066_0) rfl kR kR kR (fun _ _ _ h=>h) (Or.inl ⟨by rfl,?hy1066_0⟩) aS ?hr1066_0
 case hy1066_0 =>
  exact qq9
 (try simp only[Act.put,sX])
 refine Am (i:=3) rfl kR (fun K3 hK3=>?hr1067_0);have kqq317:=@Hz _ @nn575;exact qq317):p:=h
theorem nn208(h:p:=by
 refine Bo (fun w'=>w'.cell? ⟨T,6,none⟩=some (.slice (some ⟨g9,0,none⟩) 2 cp9)) kR kR ?hS1063_1 (fun K hK hHeld=>?hr1063_1)
 case hS1063_1=>go_keep
 refine Af (i:=0) (v:=?v1064_1) rfl kR kR kR (fun _ _ _ h=>h) (Or.inl ⟨by rfl,?hy1064_1⟩) aS ?hr1064_1
 case hy1064_1 =>
  exact qq9
 (try simp only[Act.put,sX])
 refine Af (i:=1) (v:=?v1065_1) rfl kR kR kR (fun _ _ _ h=>h) (Or.inl ⟨by rfl,?hy1065_1⟩) aS ?hr1065_1
 case hy1065_1 =>
  exact qq9
 (try simp only[Act.put,sX])
 refine Af (i:=2) (v:=?v1066_1) rfl kR kR kR (fun _ _ _ h=>h) (Or.inl ⟨by rfl,?hy1066_1⟩) aS ?hr1066_1
 case hy1066_1 =>
  exact qq9
 (try simp only[Act.put,sX])
 refine Am (i:=3) rfl kR (fun K3 hK3=>?hr1067_1);have kqq317:=@Hz _ @nn574;exact qq317):p:=h
theorem nn209(h:p:=by
 refine Bo (fun w'=>w'.cell? ⟨T,6,none⟩=some (.slice (some ⟨g9,0,none⟩) 2 cp9)) kR kR ?hS1063_2 (fun K hK hHeld=>?hr1063_2)
 case hS1063_2=>go_keep
 refine Af (i:=0) (v:=?v1064_2) rfl kR kR kR (fun _ _ _ h=>h) (Or.inl ⟨by rfl,?hy1064_2⟩) aS ?hr1064_2
 case hy1064_2 =>
  exact qq9
 (try simp only[Act.put,sX])
 refine Af (i:=1) (v:=?v1065_2) rfl kR kR kR (fun _ _ _ h=>h) (Or.inl ⟨by rfl,?hy1065_2⟩) aS ?hr1065_2
 case hy1065_2 =>
  exact qq9
 (try simp only[Act.put,sX])
 refine Af (i:=2) (v:=?v1066_2) rfl kR kR kR (fun _ _ _ h=>h) (Or.inl ⟨by rfl,?hy1066_2⟩) aS ?hr1066_2
 case hy1066_2 =>
  exact qq9
 (try simp only[Act.put,sX])
 refine Am (i:=3) rfl kR (fun K3 hK3=>?hr1067_2);have kqq317:=@Hz _ @nn573;exact qq317):p:=h
theorem nn214(h:p:=by
 refine Bo (fun w'=>w'.cell? ⟨T,6,none⟩=some (.slice (some ⟨gz,0,none⟩) 1 1)) kR kR ?hS1054_2 (fun K hK hHeld=>?hr1054_2)
 case hS1054_2=>go_keep
 refine Af (i:=0) (v:=?v1055_2) rfl kR kR kR (fun _ _ _ h=>h) (Or.inl ⟨by rfl,?hy1055_2⟩) aS ?hr1055_2
 case hy1055_2 =>
  exact qq9
 (try simp only[Act.put,sX])
 refine Af (i:=1) (v:=?v1056_2) rfl kR kR kR (fun _ _ _ h=>h) (Or.inl ⟨by rfl,?hy1056_2⟩) aS ?hr1056_2
 case hy1056_2 =>
  exact qq9
 (try simp only[Act.put,sX])
 refine Af (i:=2) (v:=?v1057_2) rfl kR kR kR (fun _ _ _ h=>h) (Or.inl ⟨by rfl,?hy1057_2⟩) aS ?hr1057_2
 case hy1057_2 =>
  exact qq9
 (try simp only[Act.put,sX])
 refine Am (i:=3) rfl kR (fun K3 hK3=>?hr1058_2);have kqq224:=@Hz _ @nn415;exact qq224):p:=h
theorem nn215(h:p:=by
 refine Bo (fun w'=>w'.cell? ⟨T,6,none⟩=some (.slice (some ⟨gz,0,none⟩) 1 1)) kR kR ?hS1054_1 (fun K hK hHeld=>?hr1054_1)
 case hS1054_1=>go_keep
 refine Af (i:=0) (v:=?v1055_1) rfl kR kR kR (fun _ _ _ h=>h) (Or.inl ⟨by rfl,?hy1055_1⟩) aS ?hr1055_1
 case hy1055_1 =>
  exact qq9
 (try simp only[Act.put,sX])
 refine Af (i:=1) (v:=?v1056_1) rfl kR kR kR (fun _ _ _ h=>h) (Or.inl ⟨by rfl,?hy1056_1⟩) aS ?hr1056_1
 case hy1056_1 =>
  exact qq9
 (try simp only[Act.put,sX])
 refine Af (i:=2) (v:=?v1057_1) rfl kR kR kR (fun _ _ _ h=>h) (Or.inl ⟨by rfl,?hy1057_1⟩) aS ?hr1057_1
 case hy1057_1 =>
  exact qq9
 (try simp only[Act.put,sX])
 refine Am (i:=3) rfl kR (fun K3 hK3=>?hr1058_1);have kqq224:=@Hz _ @nn414;exact qq224):p:=h
theorem nn216(h:p:=by
 refine Bo (fun w'=>w'.cell? ⟨T,6,none⟩=some (.slice (some ⟨gz,0,none⟩) 1 1)) kR kR ?hS1054_0 (fun K hK hHeld=>?hr1054_0)
 case hS1054_0=>go_keep
 refine Af (i:=0) (v:=?v1055_0) rfl kR kR kR (fun _ _ _ h=>h) (Or.inl ⟨by rfl,?hy1055_0⟩) aS ?hr1055_0
 case hy1055_0 =>
  exact qq9
 (try simp only[Act.put,sX])
 refine Af (i:=1) (v:=?v1056_0) rfl kR kR kR (fun _ _ _ h=>h) (Or.inl ⟨by rfl,?hy1056_0⟩) aS ?hr1056_0
 case hy1056_0 =>
  exact qq9
 (try simp only[Act.put,sX])
 refine Af (i:=2) (v:=?v1057_0) rfl kR kR kR (fun _ _ _ h=>h) (Or.inl ⟨by rfl,?hy1057_0⟩) aS ?hr1057_0
 case hy1057_0 =>
  exact qq9
 (try simp only[Act.put,sX])
 refine Am (i:=3) rfl kR (fun K3 hK3=>?hr1058_0);have kqq224:=@Hz _ @nn413;exact qq224):p:=h
theorem nn354(h:p:=by
 have kqq8:=@Hz _ @nn14;exact qq8):p:=h
theorem nn409(h:p:=by
 refine hK5.out _ _ ?hS1069_2 (fun hHeld=>?hq1069_2)
 case hS1069_2=>exact u6
 clear hK5 K5
 (try simp only[Act.put,sX])
 refine Af (i:=6) (v:=?v1070_2) rfl kR kR kR (fun _ _ _ h=>h) (Or.inl ⟨by rfl,?hy1070_2⟩) aS ?hr1070_2
 case hy1070_2 =>
  exact qq9
 (try simp only[Act.put,sX])
 refine wpAnyH_done kR ?hr1071_2 _;refine Bi rfl ?hq1071_2;go_simp;refine hK.out _ _ ?hs1071_2;exact qq15):p:=h
theorem nn410(h:p:=by
 refine hK5.out _ _ ?hS1069_1 (fun hHeld=>?hq1069_1)
 case hS1069_1=>exact u6
 clear hK5 K5
 (try simp only[Act.put,sX])
 refine Af (i:=6) (v:=?v1070_1) rfl kR kR kR (fun _ _ _ h=>h) (Or.inl ⟨by rfl,?hy1070_1⟩) aS ?hr1070_1
 case hy1070_1 =>
  exact qq9
 (try simp only[Act.put,sX])
 refine wpAnyH_done kR ?hr1071_1 _;refine Bi rfl ?hq1071_1;go_simp;refine hK.out _ _ ?hs1071_1;exact qq15):p:=h
theorem nn411(h:p:=by
 refine hK5.out _ _ ?hS1069_0 (fun hHeld=>?hq1069_0)
 case hS1069_0=>exact u6
 clear hK5 K5
 (try simp only[Act.put,sX])
 refine Af (i:=6) (v:=?v1070_0) rfl kR kR kR (fun _ _ _ h=>h) (Or.inl ⟨by rfl,?hy1070_0⟩) aS ?hr1070_0
 case hy1070_0 =>
  exact qq9
 (try simp only[Act.put,sX])
 refine wpAnyH_done kR ?hr1071_0 _;refine Bi rfl ?hq1071_0;go_simp;refine hK.out _ _ ?hs1071_0;exact qq15):p:=h
theorem nn413(h:p:=by
 refine hK3.out _ _ ?hS1058_0 (fun hHeld=>?hq1058_0)
 case hS1058_0=>exact(Ac Q8).1.2.2.2.2.2.2.1
 clear hK3 K3
 (try simp only[Act.put,sX])
 refine Am (i:=4) rfl kR (fun K4 hK4=>?hr1059_0);go_simp;refine hK4.out _ _ ?hS1059_0 (fun hHeld=>?hq1059_0)
 case hS1059_0=>exact Ab (Ae Q8 _) 6
 clear hK4 K4
 (try simp only[Act.put,sX])
 refine Am (i:=5) rfl kR (fun K5 hK5=>?hr1060_0);have kqq32:=@Hz _ @nn101;exact qq32):p:=h
theorem nn414(h:p:=by
 refine hK3.out _ _ ?hS1058_1 (fun hHeld=>?hq1058_1)
 case hS1058_1=>exact(Ac Q8).1.2.2.2.2.2.2.1
 clear hK3 K3
 (try simp only[Act.put,sX])
 refine Am (i:=4) rfl kR (fun K4 hK4=>?hr1059_1);go_simp;refine hK4.out _ _ ?hS1059_1 (fun hHeld=>?hq1059_1)
 case hS1059_1=>exact Ab (Ae Q8 _) 6
 clear hK4 K4
 (try simp only[Act.put,sX])
 refine Am (i:=5) rfl kR (fun K5 hK5=>?hr1060_1);have kqq32:=@Hz _ @nn100;exact qq32):p:=h
theorem nn415(h:p:=by
 refine hK3.out _ _ ?hS1058_2 (fun hHeld=>?hq1058_2)
 case hS1058_2=>exact(Ac Q8).1.2.2.2.2.2.2.1
 clear hK3 K3
 (try simp only[Act.put,sX])
 refine Am (i:=4) rfl kR (fun K4 hK4=>?hr1059_2);go_simp;refine hK4.out _ _ ?hS1059_2 (fun hHeld=>?hq1059_2)
 case hS1059_2=>exact Ab (Ae Q8 _) 6
 clear hK4 K4
 (try simp only[Act.put,sX])
 refine Am (i:=5) rfl kR (fun K5 hK5=>?hr1060_2);have kqq32:=@Hz _ @nn99;exact qq32):p:=h
theorem nn432(h:p:=by
 refine(may_yes [105,102] P g c ts st t HT.out HB4.out x4 h4 HE.out).mono ?_;have kqq348:=@Hz _ @nn667;exact qq348):p:=h
theorem nn573(h:p:=by
 refine hK3.out _ _ ?hS1067_2 (fun hHeld=>?hq1067_2)
 case hS1067_2=>exact(Ac Q8).1.2.2.2.2.2.2.1
 clear hK3 K3
 (try simp only[Act.put,sX])
 refine Am (i:=4) rfl kR (fun K4 hK4=>?hr1068_2);go_simp;refine hK4.out _ _ ?hS1068_2 (fun hHeld=>?hq1068_2)
 case hS1068_2=>exact Ab (Ae Q8 _) 6
 clear hK4 K4
 (try simp only[Act.put,sX])
 refine Am (i:=5) rfl kR (fun K5 hK5=>?hr1069_2);have kqq223:=@Hz _ @nn409;exact qq223):p:=h
theorem nn574(h:p:=by
 refine hK3.out _ _ ?hS1067_1 (fun hHeld=>?hq1067_1)
 case hS1067_1=>exact(Ac Q8).1.2.2.2.2.2.2.1
 clear hK3 K3
 (try simp only[Act.put,sX])
 refine Am (i:=4) rfl kR (fun K4 hK4=>?hr1068_1);go_simp;refine hK4.out _ _ ?hS1068_1 (fun hHeld=>?hq1068_1)
 case hS1068_1=>exact Ab (Ae Q8 _) 6
 clear hK4 K4
 (try simp only[Act.put,sX])
 refine Am (i:=5) rfl kR (fun K5 hK5=>?hr1069_1);have kqq223:=@Hz _ @nn410;exact qq223):p:=h
theorem nn575(h:p:=by
 refine hK3.out _ _ ?hS1067_0 (fun hHeld=>?hq1067_0)
 case hS1067_0=>exact(Ac Q8).1.2.2.2.2.2.2.1
 clear hK3 K3
 (try simp only[Act.put,sX])
 refine Am (i:=4) rfl kR (fun K4 hK4=>?hr1068_0);go_simp;refine hK4.out _ _ ?hS1068_0 (fun hHeld=>?hq1068_0)
 case hS1068_0=>exact Ab (Ae Q8 _) 6
 clear hK4 K4
 (try simp only[Act.put,sX])
 refine Am (i:=5) rfl kR (fun K5 hK5=>?hr1069_0);have kqq223:=@Hz _ @nn411;exact qq223):p:=h
theorem nn667(h:p:=by
 obtain⟨m0,m1,m2,m3,_⟩:=Ar q3;have cS:=fun W hW=>Hz (IH.out.seq P g c ⟨st.i+1,st.ok⟩ W hW (by have:=HN.out;have:=h0.inb;simp only at this ⊢;omega))
 have hT35:=Aa q3;go_wp2_with fail;refine Bo (fun w'=>w'.cell? ⟨T3,1,none⟩=some (vI t.at')) kR kR ?hS1036 (fun K hK hHeld=>?hr1036)
 case hS1036=>go_keep
 refine Af (i:=0) (v:=?v1037) rfl kR kR kR (fun _ _ _ h=>h) (Or.inl ⟨by rfl,?hy1037⟩) aS ?hr1037
 case hy1037 =>
  exact qq9
 (try simp only[Act.put,sX])
 refine Af (i:=1) (v:=?v1038) rfl kR kR kR (fun _ _ _ h=>h) (Or.inl ⟨by rfl,?hy1038⟩) aS ?hr1038
 case hy1038 =>
  exact qq9
 (try simp only[Act.put,sX])
 refine Af (i:=2) (v:=?v1039) rfl kR kR kR (fun _ _ _ h=>h) (Or.inl ⟨by rfl,?hy1039⟩) aS ?hr1039
 case hy1039 =>
  exact qq9
 (try simp only[Act.put,sX])
 refine wpAnyH_ready (rs:=[3,6]) kR sM (Jw (i:=3) rfl (fun K3 hK3=>?hA) (Jw (i:=6) rfl (fun K6 hK6=>?hB) AllReadyH.nil))
 case hA =>
  go_simp;refine(cS _ (h0.fr (Fr.refl [] x5).drew)).out.mono ?_;rintro e x6 ⟨k1,a1,nm1,n1,s1,ls1,args1,arms1,A51,n51,c51,A61,n61,c61,A71,n71,c71,st2,rfl,hx1,hr1,hst2,f6⟩;have Q6:=f6.keep (w:=x5.drew) q3 sO;have hT6:=Aa Q6;have M6:=Ar Q6;go_simp;refine hK3.out _ _ ?hS1048 (fun hHeld=>?hq1048)
  case hS1048=>exact M6.2.1
  clear hK3 K3
  (try simp only[Act.put,sX])
  refine wpAnyH_ready (rs:=[4,6]) kR sM (Jw (i:=4) rfl (fun K4 hK4=>?hC) (Jw (i:=6) rfl (fun K6 hK6=>?hD) AllReadyH.nil))
  case hC =>
   go_simp;refine hK4.out _ _ ?hS1040 (fun hHeld=>?hq1040)
   case hS1040=>exact(Ar (Ae Q6 _)).2.1
   clear hK4 K4
   (try simp only[Act.put,sX])
   refine Af (i:=5) (v:=?v1041) rfl kR kR kR (fun _ _ _ h=>h) (Or.inl ⟨by rfl,?hy1041⟩) aS ?hr1041
   case hy1041 =>
    exact qq9
   (try simp only[Act.put,sX])
   refine Am (i:=6) rfl kR (fun K6 hK6=>?hr1042);go_simp;refine hK6.out _ _ ?hS1042 (fun hHeld=>?hq1042)
   case hS1042=>exact(Ar (Ae (Ae Q6 _) _)).2.1
   clear hK6 K6
   (try simp only[Act.put,sX])
   refine wpAnyH_done kR ?hr1043 _;refine Bi rfl ?hq1043;go_simp;refine hK.out _ _ ?hs1043;clear hK K;have f6:Fr [P] x5 x6:=((Fr.refl [P] x5).drew).trans f6;have hs6:=f6.size;have hx1:=hx1.keep (ok':=fun b=>B<b∧¬ b=x6.heap.size+1∧¬ b=P) (Sh.of_fr (Fr.refl [] x6) (fun b hb hlt=>⟨by have:x5.heap.size≤b:=hb;exact⟨oM,oM,oM⟩,fun x=>by cases x⟩));have hsz:(x6.alloc (.cells #[vI k1,vI a1,vS nm1,vI n1,vS s1,.slice A51 n51 c51,.slice A61 n61 c61,.slice A71 n71 c71] 27)).heap.size=x6.heap.size+1:=by simp
   have row:=An.lit As (T:=27) (size:=8) (ok:=fun b=>B<b∧¬ b=x6.heap.size+1∧¬ b=P) hx1 rfl (by exact⟨oM,oM,oM⟩);have row:=An.keep (ok':=fun b=>B<b∧¬ b=x6.heap.size+1∧¬ b=P) As row (Sh.of_fr ((Fr.refl [] (x6.alloc (.cells #[vI k1,vI a1,vS nm1,vI n1,vS s1,.slice A51 n51 c51,.slice A61 n61 c61,.slice A71 n71 c71] 27))).alloc (.cells #[vI 11,vI t.at',vE,vI 0,vE,vZ,.slice (some ⟨x6.heap.size,0,none⟩) 1 1,vZ] 27)) (fun b hb hlt=>⟨hb,fun x=>by cases x⟩));have q0:=Ag (x6.alloc (.cells #[vI k1,vI a1,vS nm1,vI n1,vS s1,.slice A51 n51 c51,.slice A61 n61 c61,.slice A71 n71 c71] 27)) (.cells #[vI 11,vI t.at',vE,vI 0,vE,vZ,.slice (some ⟨x6.heap.size,0,none⟩) 1 1,vZ] 27);rw[hsz] at q0;have fbb:Fr [] x6 ((x6.alloc (.cells #[vI k1,vI a1,vS nm1,vI n1,vS s1,.slice A51 n51 c51,.slice A61 n61 c61,.slice A71 n71 c71] 27)).alloc (.cells #[vI 11,vI t.at',vE,vI 0,vE,vZ,.slice (some ⟨x6.heap.size,0,none⟩) 1 1,vZ] 27)):=((Fr.refl [] x6).alloc _).alloc _;have g0:=fbb.keep (f6.keep g0 sO) nE;have h0:=hst2.fr fbb;have F:=(F.trans f6).trans0 fbb;have hBT:B<x6.heap.size+1:=by omega
   clear hsz fbb f6 hx1 hst2 Q6 M6 q3 hT6 hs6 m0 m1 m2 m3 cS
   generalize (x6.alloc (.cells #[vI k1,vI a1,vS nm1,vI n1,vS s1,.slice A51 n51 c51,.slice A61 n61 c61,.slice A71 n71 c71] 27)).alloc (.cells #[vI 11,vI t.at',vE,vI 0,vE,vZ,.slice (some ⟨x6.heap.size,0,none⟩) 1 1,vZ] 27)=wz at *
   generalize x6.heap.size+1=T at *
   generalize x6.heap.size=gz at *
   have kqq78:=@Hz _ @nn216;exact qq78
  case hD =>
   go_simp;refine hK6.out _ _ ?hS1044 (fun hHeld=>?hq1044)
   case hS1044=>exact(Ar (Ae Q6 _)).2.1
   clear hK6 K6
   (try simp only[Act.put,sX])
   refine Am (i:=4) rfl kR (fun K4 hK4=>?hr1045);go_simp;refine hK4.out _ _ ?hS1045 (fun hHeld=>?hq1045)
   case hS1045=>exact(Ar (Ae (Ae Q6 _) _)).2.1
   clear hK4 K4
   (try simp only[Act.put,sX])
   refine Af (i:=5) (v:=?v1046) rfl kR kR kR (fun _ _ _ h=>h) (Or.inl ⟨by rfl,?hy1046⟩) aS ?hr1046
   case hy1046 =>
    exact qq9
   (try simp only[Act.put,sX])
   refine wpAnyH_done kR ?hr1047 _;refine Bi rfl ?hq1047;go_simp;refine hK.out _ _ ?hs1047;clear hK K;have f6:Fr [P] x5 x6:=((Fr.refl [P] x5).drew).trans f6;have hs6:=f6.size;have hx1:=hx1.keep (ok':=fun b=>B<b∧¬ b=x6.heap.size∧¬ b=P) (Sh.of_fr (Fr.refl [] x6) (fun b hb hlt=>⟨by have:x5.heap.size≤b:=hb;exact⟨oM,oM,oM⟩,fun x=>by cases x⟩));have hsz:(x6.alloc (.cells #[vI 11,vI t.at',vE,vI 0,vE,vZ,.slice (some ⟨x6.heap.size+1,0,none⟩) 1 1,vZ] 27)).heap.size=x6.heap.size+1:=by simp
   have fe:=(Fr.refl [] x6).alloc (.cells #[vI 11,vI t.at',vE,vI 0,vE,vZ,.slice (some ⟨x6.heap.size+1,0,none⟩) 1 1,vZ] 27);have hx1:=hx1.keep (ok':=fun b=>B<b∧¬ b=x6.heap.size∧¬ b=P) (Sh.of_fr fe (fun b hb hlt=>⟨hb,fun x=>by cases x⟩));have row:=An.lit As (T:=27) (size:=8) (ok:=fun b=>B<b∧¬ b=x6.heap.size∧¬ b=P) hx1 rfl (by rw[hsz];exact⟨oM,oM,oM⟩);have q0:=Ae (Ag x6 (.cells #[vI 11,vI t.at',vE,vI 0,vE,vZ,.slice (some ⟨x6.heap.size+1,0,none⟩) 1 1,vZ] 27)) (.cells #[vI k1,vI a1,vS nm1,vI n1,vS s1,.slice A51 n51 c51,.slice A61 n61 c61,.slice A71 n71 c71] 27);have fbb:Fr [] x6 ((x6.alloc (.cells #[vI 11,vI t.at',vE,vI 0,vE,vZ,.slice (some ⟨x6.heap.size+1,0,none⟩) 1 1,vZ] 27)).alloc (.cells #[vI k1,vI a1,vS nm1,vI n1,vS s1,.slice A51 n51 c51,.slice A61 n61 c61,.slice A71 n71 c71] 27)):=((Fr.refl [] x6).alloc _).alloc _;have g0:=fbb.keep (f6.keep g0 sO) nE;have h0:=hst2.fr fbb;have F:=(F.trans f6).trans0 fbb;have hBT:B<x6.heap.size:=by omega
   rw[hsz] at row;clear hsz fbb fe f6 hx1 hst2 Q6 M6 q3 hT6 hs6 m0 m1 m2 m3 cS
   generalize (x6.alloc (.cells #[vI 11,vI t.at',vE,vI 0,vE,vZ,.slice (some ⟨x6.heap.size+1,0,none⟩) 1 1,vZ] 27)).alloc (.cells #[vI k1,vI a1,vS nm1,vI n1,vS s1,.slice A51 n51 c51,.slice A61 n61 c61,.slice A71 n71 c71] 27)=wz at *
   generalize x6.heap.size+1=gz at *
   generalize x6.heap.size=T at *
   have kqq78:=@Hz _ @nn215;exact qq78
 case hB =>
  go_simp;refine hK6.out _ _ ?hS1049 (fun hHeld=>?hq1049)
  case hS1049=>exact(Ar (Ae q3 _)).2.1
  clear hK6 K6
  (try simp only[Act.put,sX])
  refine Am (i:=3) rfl kR (fun K3 hK3=>?hr1050);go_simp;refine(cS _ (h0.fr ((Fr.refl [] x5).alloc (.cells #[vI 0,vI 0,vE,vI 0,vE,vZ,vZ,vZ] 27)).drew)).out.mono ?_;rintro e x6 ⟨k1,a1,nm1,n1,s1,ls1,args1,arms1,A51,n51,c51,A61,n61,c61,A71,n71,c71,st2,rfl,hx1,hr1,hst2,f6⟩;have Q6:=f6.keep (w:=(x5.alloc (.cells #[vI 0,vI 0,vE,vI 0,vE,vZ,vZ,vZ] 27)).drew) (Ae q3 (.cells #[vI 0,vI 0,vE,vI 0,vE,vZ,vZ,vZ] 27)) sO;have hT6:=Aa Q6;have M6:=Ar Q6;have R6:=f6.keep (w:=(x5.alloc (.cells #[vI 0,vI 0,vE,vI 0,vE,vZ,vZ,vZ] 27)).drew) (Ag x5 (.cells #[vI 0,vI 0,vE,vI 0,vE,vZ,vZ,vZ] 27)) sO;have hR6:=Aa R6;obtain⟨⟨u0,u1,u2,u3,u4,u5,u6,u7⟩,z0,z1,z2,z3,z4,z5,z6,z7⟩:=Ac R6;go_simp;refine hK3.out _ _ ?hS1050 (fun hHeld=>?hq1050)
  case hS1050=>exact M6.2.1
  clear hK3 K3
  (try simp only[Act.put,sX])
  refine Am (i:=4) rfl kR (fun K4 hK4=>?hr1051);go_simp;refine hK4.out _ _ ?hS1051 (fun hHeld=>?hq1051)
  case hS1051=>exact(Ar (Ae Q6 _)).2.1
  clear hK4 K4
  (try simp only[Act.put,sX])
  refine Af (i:=5) (v:=?v1052) rfl kR kR kR (fun _ _ _ h=>h) (Or.inl ⟨by rfl,?hy1052⟩) aS ?hr1052
  case hy1052 =>
   exact qq9
  (try simp only[Act.put,sX])
  refine wpAnyH_done kR ?hr1053 _;refine Bi rfl ?hq1053;go_simp;refine hK.out _ _ ?hs1053;clear hK K;have f6:Fr [P] (x5.alloc (.cells #[vI 0,vI 0,vE,vI 0,vE,vZ,vZ,vZ] 27)) x6:=((Fr.refl [P] _).drew).trans f6;have hs6:=f6.size;have hsz:(x5.alloc (.cells #[vI 0,vI 0,vE,vI 0,vE,vZ,vZ,vZ] 27)).heap.size=x5.heap.size+1:=by simp
  clear u0 u1 u2 u3 u4 u5 u6 u7 z0 z1 z2 z3 z4 z5 z6 z7;have fs:=Aj x6 x5.heap.size (vI 11) (vI t.at') (vE) (vI 0) (vE) (vZ) (.slice (some ⟨x6.heap.size,0,none⟩) 1 1) (vZ);have hx1:=hx1.keep (ok':=fun b=>B<b∧¬ b=x5.heap.size∧¬ b=P) (Sh.of_fr fs (fun b hb hlt=>⟨by have:(x5.alloc (.cells #[vI 0,vI 0,vE,vI 0,vE,vZ,vZ,vZ] 27)).heap.size≤b:=hb;exact⟨oM,oM,oM⟩,by have:(x5.alloc (.cells #[vI 0,vI 0,vE,vI 0,vE,vZ,vZ,vZ] 27)).heap.size≤b:=hb;simp;omega⟩));have hst:=E0 x6 x5.heap.size (vI 11) (vI t.at') (vE) (vI 0) (vE) (vZ) (.slice (some ⟨x6.heap.size,0,none⟩) 1 1) (vZ);have row:=An.lit As (T:=27) (size:=8) (ok:=fun b=>B<b∧¬ b=x5.heap.size∧¬ b=P) hx1 rfl (by rw[hst];exact⟨oM,oM,oM⟩);rw[hst] at row;have q0:=Ae (Aq R6 (vI 11) (vI t.at') (vE) (vI 0) (vE) (vZ) (.slice (some ⟨x6.heap.size,0,none⟩) 1 1) (vZ)) (.cells #[vI k1,vI a1,vS nm1,vI n1,vS s1,.slice A51 n51 c51,.slice A61 n61 c61,.slice A71 n71 c71] 27);have g0:=Ae (fs.keep (f6.keep (Ae g0 (.cells #[vI 0,vI 0,vE,vI 0,vE,vZ,vZ,vZ] 27)) sO) sO) (.cells #[vI k1,vI a1,vS nm1,vI n1,vS s1,.slice A51 n51 c51,.slice A61 n61 c61,.slice A71 n71 c71] 27);have h0:=(hst2.frL fs sO sO).fr ((Fr.refl [] (st8 x6 x5.heap.size (vI 11) (vI t.at') (vE) (vI 0) (vE) (vZ) (.slice (some ⟨x6.heap.size,0,none⟩) 1 1) (vZ))).alloc (.cells #[vI k1,vI a1,vS nm1,vI n1,vS s1,.slice A51 n51 c51,.slice A61 n61 c61,.slice A71 n71 c71] 27))
  have F:=((((F.alloc (.cells #[vI 0,vI 0,vE,vI 0,vE,vZ,vZ,vZ] 27)).trans f6).step fs (fun x hx => .inr (by simp at hx;omega))).alloc (.cells #[vI k1,vI a1,vS nm1,vI n1,vS s1,.slice A51 n51 c51,.slice A61 n61 c61,.slice A71 n71 c71] 27))
  have hBT:B<x5.heap.size:=by omega
  unfold st8 at row q0 g0 h0 F;clear hsz hst fs f6 hx1 hst2 Q6 M6 R6 q3 hT6 hR6 m0 m1 m2 m3 cS
  generalize ((((((((x6.setCell ⟨x5.heap.size,0,none⟩ (vI 11)).setCell ⟨x5.heap.size,1,none⟩ (vI t.at')).setCell ⟨x5.heap.size,2,none⟩ (vE)).setCell ⟨x5.heap.size,3,none⟩ (vI 0)).setCell ⟨x5.heap.size,4,none⟩ (vE)).setCell ⟨x5.heap.size,5,none⟩ (vZ)).setCell ⟨x5.heap.size,6,none⟩ (.slice (some ⟨x6.heap.size,0,none⟩) 1 1)).setCell ⟨x5.heap.size,7,none⟩ (vZ)).alloc (.cells #[vI k1,vI a1,vS nm1,vI n1,vS s1,.slice A51 n51 c51,.slice A61 n61 c61,.slice A71 n71 c71] 27)=wz at *
  generalize x6.heap.size=gz at *
  generalize x5.heap.size=T at *
  have kqq78:=@Hz _ @nn214;exact qq78):p:=h
theorem item_if(ts:List Tok)(hE:Cx ts)(N:Nat)(ih:Hi ts N)(P g c:Nat)(st:St)(w:World)(h:PSt P g c ts st w)(hm:16 *(ts.length-st.i)+12<N+1)(t:Tok)(ht:ts[st.i]?=some t)(hb0:isB t st.ok [[108,101,116]]=false)(hb1:isB t st.ok [[102,117,110]]=false)(hb2:isB t st.ok [[109,97,116,99,104]]=false)(hb3:isB t st.ok [[116,114,121]]=false)(hb4:isB t st.ok [[105,102]]=true):Calls prog 30 #[.pointer (some ⟨P,0,none⟩)] w (Kw P g c ts st (body .item) w):=by
 have kqq145:=@Hz _ @nn354;exact qq145
theorem nn13(h:p:=by
 have kqq63:=@Hz _ @nn172;exact qq63):p:=h
theorem nn172(h:p:=by
 have kqq128:=@Hz _ @nn329;exact qq128):p:=h
theorem nn329(h:p:=by
 refine(may_yes [114,97,105,115,101] P g c ts st t HT.out HB5.out x4 h4 HE.out).mono ?_;have kqq348:=@Hz _ @nn668;exact qq348):p:=h
theorem nn353(h:p:=by
 have HB5:=Hz hb5;clear hb5;have kqq8:=@Hz _ @nn13;exact qq8):p:=h
theorem nn439(h:p:=by
 have hxx:=Ak.of_rows (k:=18) (a:=t.at') (nm:=[]) (n:=0) (s:=[]) (c5:=fun _=>[]) (c7:=fun _=>[]) An.nil_ row An.nil_;refine bodyPost_ret (v:=.agg #[vI 18,vI t.at',vE,vI 0,vE,vZ,.slice (some ⟨x6.heap.size,0,none⟩) 1 1,vZ]) ?_ rfl ?_
 ·exact qq126
 ·exact⟨_,_,_,_,_,_,_,_,_,_,_,_,_,_,_,_,_,_,rfl,by rw[hB];exact hxx,.look HT.out (.may_no HT.out HB0.out (.els (.isC_ HT.out HB1.out (.els (.may_no HT.out HB2.out (.els (.may_no HT.out HB3.out (.els (.may_no HT.out HB4.out (.els (.may_yes HT.out HB5.out (.thn (.callE hr2 .retE))))))))))))),HP.out.fr ((Fr.refl [] Z).alloc _),HF.out.alloc _⟩):p:=h
theorem nn598(h:p:=by
 have HG:=Hz (Aq G6 (vI 18) (vI t.at') (vE) (vI 0) (vE) (vZ) (.slice (some ⟨x6.heap.size,0,none⟩) 1 1) (vZ));have HF:=Hz ((F.trans f6).step (Aj x6 B (vI 18) (vI t.at') (vE) (vI 0) (vE) (vZ) (.slice (some ⟨x6.heap.size,0,none⟩) 1 1) (vZ)) (fun x hx => .inr (by simp at hx;omega)));have HP:=Hz ((hst2).frL (Aj x6 B (vI 18) (vI t.at') (vE) (vI 0) (vE) (vZ) (.slice (some ⟨x6.heap.size,0,none⟩) 1 1) (vZ)) (by simpa using nP) (by simpa using ng));have HS:=Hz (E0 x6 B (vI 18) (vI t.at') (vE) (vI 0) (vE) (vZ) (.slice (some ⟨x6.heap.size,0,none⟩) 1 1) (vZ));have HX2:Hid (Ak (st8 x6 B (vI 18) (vI t.at') (vE) (vI 0) (vE) (vZ) (.slice (some ⟨x6.heap.size,0,none⟩) 1 1) (vZ)) (fun b=>B≤b) (.mk k2 a2 nm2 n2 s2 ls2 args2 arms2) [vI k2,vI a2,vS nm2,vI n2,vS s2,.slice A52 n52 c52,.slice A62 n62 c62,.slice A72 n72 c72]):=Hz ((hx2).keep (Sh.of_fr (Aj x6 B (vI 18) (vI t.at') (vE) (vI 0) (vE) (vZ) (.slice (some ⟨x6.heap.size,0,none⟩) 1 1) (vZ)) (fun b hb hlt=>⟨oM,by simp;omega⟩)));unfold st8 at HG HF HP HS HX2;go_wp2_with fail;generalize (((((((x6.setCell ⟨B,0,none⟩ (vI 18)).setCell ⟨B,1,none⟩ (vI t.at')).setCell ⟨B,2,none⟩ (vE)).setCell ⟨B,3,none⟩ (vI 0)).setCell ⟨B,4,none⟩ (vE)).setCell ⟨B,5,none⟩ (vZ)).setCell ⟨B,6,none⟩ (.slice (some ⟨x6.heap.size,0,none⟩) 1 1)).setCell ⟨B,7,none⟩ (vZ)=Z at HG HF HP HS HX2 ⊢;have kqq232:=@Hz _ @nn439;exact qq232):p:=h
theorem nn668(h:p:=by
 have cS:=fun W hW=>Hz (IH.out.post P g c ⟨st.i+1,st.ok⟩ W hW (by have:=HN.out;have:=h0.inb;simp only at this ⊢;omega))
 obtain⟨m0,m1,m2,m3,_⟩:=Ar q3;have n3B:¬ T3=B:=by omega
 have nB3:¬ B=T3:=by omega
 go_wp2_with fail
 go_region_held3 (fun w'=>w'.cell? ⟨T3,1,none⟩=some (vI t.at')) (first|go_keep|exact M6.2.1) (((with_reducible refine(cS _ (h0.fr (Fr.refl [] x5).drew)).out.mono ?_);rintro e x6 ⟨k2,a2,nm2,n2,s2,ls2,args2,arms2,A52,n52,c52,A62,n62,c62,A72,n72,c72,st2,rfl,hx2,hr2,hst2,f6⟩;have Q6:=f6.keep (w:=x5.drew) q3 sO;have hT6:=Aa Q6;have M6:=Ar Q6;have G6:=f6.keep (w:=x5.drew) g0 (by simpa using nB);have hB6:=Aa G6;obtain⟨⟨u0,u1,u2,u3,u4,u5,u6,u7⟩,z0,z1,z2,z3,z4,z5,z6,z7⟩:=Ac G6))
 clear m0 m1 m2 m3 M6 u0 u1 u2 u3 u4 u5 u6 u7 z0 z1 z2 z3 z4 z5 z6 z7;have f6:Fr [P] x5 x6:=((Fr.refl [P] x5).drew).trans f6;have kqq323:=@Hz _ @nn598;exact qq323):p:=h
theorem Zv(ts:List Tok)(hE:Cx ts)(N:Nat)(ih:Hi ts N)(P g c:Nat)(st:St)(w:World)(h:PSt P g c ts st w)(hm:16 *(ts.length-st.i)+12<N+1)(t:Tok)(ht:ts[st.i]?=some t)(hb0:isB t st.ok [[108,101,116]]=false)(hb1:isB t st.ok [[102,117,110]]=false)(hb2:isB t st.ok [[109,97,116,99,104]]=false)(hb3:isB t st.ok [[116,114,121]]=false)(hb4:isB t st.ok [[105,102]]=false)(hb5:isB t st.ok [[114,97,105,115,101]]=true):Calls prog 30 #[.pointer (some ⟨P,0,none⟩)] w (Kw P g c ts st (body .item) w):=by
 have kqq145:=@Hz _ @nn353;exact qq145
theorem nn12(h:p:=by
 have kqq333:=@Hz _ @nn626;exact qq333):p:=h
theorem nn26(h:p:=by
 refine bodyPost_ret (v:=.agg #[vI k1,vI a1,vS nm1,vI n1,vS s1,.slice A51 n51 c51,.slice A61 n61 c61,.slice A71 n71 c71]) ?_ rfl ?_
 ·exact qq126
 ·exact⟨_,_,_,_,_,_,_,_,_,_,_,_,_,_,_,_,_,_,rfl,by rw[hB];exact HX.out,.look HT.out (.may_no HT.out HB0.out (.els (.isC_ HT.out HB1.out (.els (.may_no HT.out HB2.out (.els (.may_no HT.out HB3.out (.els (.may_no HT.out HB4.out (.els (.may_no HT.out HB5.out (.els (.callE hr1 (.look hv (.may_no hv hb (.els .retE)))))))))))))))),HP.out,HF.out⟩):p:=h
theorem nn108(h:p:=by
 generalize hTT1:x1.heap.size=T7 at *
 have g0:=fb1.keep g0 nE;have h2:=hst1.fr fb1;have F2:=F1.trans0 fb1;have hx1:=hx1.keep (ok':=fun b=>B<b∧¬ b=T7) (Sh.of_fr fb1 (fun b hb hlt=>⟨⟨oM,oM⟩,fun x=>by cases x⟩));obtain⟨v,hv⟩:=Bn hst1.inb;refine(Cr P g c ts st1 v hv x2 h2 HE.out).mono ?_;rintro e x3 ⟨rfl,f3⟩;go_wp2_with fail;have q4:=Ag x3 (.cells #[vI v.k,vI v.at',.string ⟨v.text.toArray⟩,vI v.n] 52);have fb4:Fr [] x3 (x3.alloc (.cells #[vI v.k,vI v.at',.string ⟨v.text.toArray⟩,vI v.n] 52)):=(Fr.refl [] x3).alloc _
 generalize hY4:x3.alloc (.cells #[vI v.k,vI v.at',.string ⟨v.text.toArray⟩,vI v.n] 52)=x4 at *
 have hT4:=Aa q4
 generalize hTT4:x3.heap.size=T8 at *
 have f4:=f3.trans fb4;have g0:=f4.keep g0 nE;have q1:=f4.keep q1 nE;have h4:=h2.fr f4;have F4:=F2.trans0 f4;have hs3:=f3.size;have hx1:=hx1.keep (ok':=fun b=>B<b∧¬ b=T7∧¬ b=T8) (Sh.of_fr f4 (fun b hb hlt=>⟨⟨hb.1,hb.2,oM⟩,fun x=>by cases x⟩));have hle:=hr1.le
 cases hb:isB v st1.ok [[58,61]] with
 | false =>
  refine(may_no [58,61] P g c ts st1 v hv hb x4 h4 HE.out).mono ?_;rintro e x5 ⟨rfl,f5⟩;have kqq12:=@Hz _ @nn26
  exact qq12
 | true =>
  refine(may_yes [58,61] P g c ts st1 v hv hb x4 h4 HE.out).mono ?_;rintro e x5 ⟨rfl,h5,f5⟩;have g0:=f5.keep g0 (by simpa using nB);have q1:=f5.keep q1 sO;have q4:=f5.keep q4 sO;have hs5:=f5.size;have F5:=F4.trans f5;have hx1:=hx1.keep (ok':=fun b=>B<b∧¬ b=T7∧¬ b=T8∧¬ b=P∧b<x5.heap.size) (Sh.of_fr f5 (fun b hb hlt=>⟨⟨hb.1,hb.2.1,hb.2.2,oM,oM⟩,by simp;omega⟩));obtain⟨⟨l0,l1,l2,l3,l4,l5,l6,l7⟩,_⟩:=Ac q1;obtain⟨m0,m1,m2,m3,_⟩:=Ar q4;have cE:=fun W hW=>Hz (IH.out.item P g c ⟨st1.i+1,st1.ok⟩ W hW (by have:=HN.out;have:=h5.inb;simp only at this ⊢;omega))
  go_wp2_with fail;have n34:¬ T7=T8:=by omega
  have n3B:¬ T7=B:=by omega
  have nB3:¬ B=T7:=by omega
  have n4B:¬ T8=B:=by omega
  have nB4:¬ B=T8:=by omega
  clear fb1 fb4 f1 f3 f4 h2 h4 F1 F2 F4 hst1 H hY1 hY4
  go_region_held3 (fun w'=>(w'.cell? ⟨T8,0,none⟩=some (vI v.k)∧w'.cell? ⟨T8,1,none⟩=some (vI v.at')∧w'.cell? ⟨T8,2,none⟩=some (.string ⟨v.text.toArray⟩)∧w'.cell? ⟨T8,3,none⟩=some (vI v.n))∧(w'.cell? ⟨T7,0,none⟩=some (vI k1)∧w'.cell? ⟨T7,1,none⟩=some (vI a1)∧w'.cell? ⟨T7,2,none⟩=some (vS nm1)∧w'.cell? ⟨T7,3,none⟩=some (vI n1)∧w'.cell? ⟨T7,4,none⟩=some (vS s1)∧w'.cell? ⟨T7,5,none⟩=some (.slice A51 n51 c51)∧w'.cell? ⟨T7,6,none⟩=some (.slice A61 n61 c61)∧w'.cell? ⟨T7,7,none⟩=some (.slice A71 n71 c71))) (go_keep) ((first|((with_reducible refine(cE _ (h5.fr (Fr.refl [] x5).drew)).out.mono ?_);rintro e x6 ⟨k2,a2,nm2,n2,s2,ls2,args2,arms2,A52,n52,c52,A62,n62,c62,A72,n72,c72,st2,rfl,hx2,hr2,hst2,f6⟩;have Q1:=f6.keep (w:=x5.drew) q1 sO;have Q4:=f6.keep (w:=x5.drew) q4 sO;have G6:=f6.keep (w:=x5.drew) g0 (by simpa using nB);have hT36:=Aa Q1;have hT46:=Aa Q4;have hB6:=Aa G6;have M3:=(Ac Q1).1;have M4:=Ar Q4)| ((with_reducible refine(Mi _ v _ _ _ _).mono ?_);rintro e x7 ⟨rfl,f7⟩;have R1:=f7.keep (Ae Q1 (.cells #[vI k1,vI a1,vS nm1,vI n1,vS s1,.slice A51 n51 c51,.slice A61 n61 c61,.slice A71 n71 c71,vI k2,vI a2,vS nm2,vI n2,vS s2,.slice A52 n52 c52,.slice A62 n62 c62,.slice A72 n72 c72] 27)) nE;have R4:=f7.keep (Ae Q4 (.cells #[vI k1,vI a1,vS nm1,vI n1,vS s1,.slice A51 n51 c51,.slice A61 n61 c61,.slice A71 n71 c71,vI k2,vI a2,vS nm2,vI n2,vS s2,.slice A52 n52 c52,.slice A62 n62 c62,.slice A72 n72 c72] 27)) nE;have G7:=f7.keep (Ae G6 (.cells #[vI k1,vI a1,vS nm1,vI n1,vS s1,.slice A51 n51 c51,.slice A61 n61 c61,.slice A71 n71 c71,vI k2,vI a2,vS nm2,vI n2,vS s2,.slice A52 n52 c52,.slice A62 n62 c62,.slice A72 n72 c72] 27)) nE;have hT37:=Aa R1;have hT47:=Aa R4;have hB7:=Aa G7;have M5:=(Ac R1).1;have M6:=Ar R4;obtain⟨⟨u0,u1,u2,u3,u4,u5,u6,u7⟩,z0,z1,z2,z3,z4,z5,z6,z7⟩:=Ac G7)))
  all_goals
   have kqq71:=@Hz _ @nn196;exact qq71):p:=h
theorem nn196(h:p:=by
 have HG:=Hz (Aq G7 (vI 19) (vI v.at') (vE) (vI 12) (vE) (vZ) (.slice (some ⟨x6.heap.size,0,none⟩) 2 2) (vZ));have HF:=Hz ((F5.trans (f6.trans0 (((Fr.refl [] x6).alloc _).trans f7))).step (Aj x7 B (vI 19) (vI v.at') (vE) (vI 12) (vE) (vZ) (.slice (some ⟨x6.heap.size,0,none⟩) 2 2) (vZ)) (fun x hx => .inr (by simp at hx;omega)));have HP:=Hz (((hst2.fr (((Fr.refl [] x6).alloc _).trans f7))).frL (Aj x7 B (vI 19) (vI v.at') (vE) (vI 12) (vE) (vZ) (.slice (some ⟨x6.heap.size,0,none⟩) 2 2) (vZ)) (by simpa using nP) (by simpa using ng));have HR:=Hz (An.keep (ok':=fun b=>B≤b) As row7 (Sh.of_fr (Aj x7 B (vI 19) (vI v.at') (vE) (vI 12) (vE) (vZ) (.slice (some ⟨x6.heap.size,0,none⟩) 2 2) (vZ)) (fun b hb hlt=>⟨oM,by simp;omega⟩)));unfold st8 at HG HF HP HR;go_wp2_with fail;generalize (((((((x7.setCell ⟨B,0,none⟩ (vI 19)).setCell ⟨B,1,none⟩ (vI v.at')).setCell ⟨B,2,none⟩ (vE)).setCell ⟨B,3,none⟩ (vI 12)).setCell ⟨B,4,none⟩ (vE)).setCell ⟨B,5,none⟩ (vZ)).setCell ⟨B,6,none⟩ (.slice (some ⟨x6.heap.size,0,none⟩) 2 2)).setCell ⟨B,7,none⟩ (vZ)=Z at HG HF HP HR ⊢;obtain⟨⟨d0,d1,d2,d3,d4,d5,d6,d7⟩,_⟩:=Ac HG.out;have hxx:=Ak.of_rows (k:=19) (a:=v.at') (nm:=[]) (n:=12) (s:=[]) (c5:=fun _=>[]) (c7:=fun _=>[]) An.nil_ HR.out An.nil_;refine bodyPost_ret (v:=.agg #[vI 19,vI v.at',vE,vI 12,vE,vZ,.slice (some ⟨x6.heap.size,0,none⟩) 2 2,vZ]) ?_ rfl ?_
 ·exact qq126
 ·exact⟨_,_,_,_,_,_,_,_,_,_,_,_,_,_,_,_,_,_,rfl,by rw[hB];exact hxx,.look HT.out (.may_no HT.out HB0.out (.els (.isC_ HT.out HB1.out (.els (.may_no HT.out HB2.out (.els (.may_no HT.out HB3.out (.els (.may_no HT.out HB4.out (.els (.may_no HT.out HB5.out (.els (.callE hr1 (.look hv (.may_yes hv hb (.thn (.callE hr2 .retE))))))))))))))))),HP.out,HF.out⟩):p:=h
theorem nn330(h:p:=by
 refine(may_no [114,97,105,115,101] P g c ts st t HT.out HB5.out x4 h4 HE.out).mono ?_;have kqq229:=@Hz _ @nn430;exact qq229):p:=h
theorem nn352(h:p:=by
 have HB5:=Hz hb5;clear hb5;have kqq8:=@Hz _ @nn12;exact qq8):p:=h
theorem nn430(h:p:=by
 refine(IH.out.or P g c st x4 h4 (by have:=HN.out;omega)).mono ?_;rintro e x1 ⟨k1,a1,nm1,n1,s1,ls1,args1,arms1,A51,n51,c51,A61,n61,c61,A71,n71,c71,st1,rfl,hx1,hr1,hst1,f1⟩;have hBx4:=Aa g0;have g0:=f1.keep g0 (by simpa using nB);have hs1:=f1.size;have F1:Fr [P] w x1:=(f4.mono (fun x hx=>by cases hx)).trans f1;clear q3 f4 h4 hT4 hs3;go_wp2_with fail;have kqq33:=@Hz _ @nn108;exact qq33):p:=h
theorem nn434(h:p:=by
 have kqq128:=@Hz _ @nn330;exact qq128):p:=h
theorem nn626(h:p:=by
 refine(may_no [109,97,116,99,104] P g c ts st t HT.out HB2.out x4 h4 HE.out).mono ?_;have kqq229:=@Hz _ @nn434;exact qq229):p:=h
theorem item_or(ts:List Tok)(hE:Cx ts)(N:Nat)(ih:Hi ts N)(P g c:Nat)(st:St)(w:World)(h:PSt P g c ts st w)(hm:16 *(ts.length-st.i)+12<N+1)(t:Tok)(ht:ts[st.i]?=some t)(hb0:isB t st.ok [[108,101,116]]=false)(hb1:isB t st.ok [[102,117,110]]=false)(hb2:isB t st.ok [[109,97,116,99,104]]=false)(hb3:isB t st.ok [[116,114,121]]=false)(hb4:isB t st.ok [[105,102]]=false)(hb5:isB t st.ok [[114,97,105,115,101]]=false):Calls prog 30 #[.pointer (some ⟨P,0,none⟩)] w (Kw P g c ts st (body .item) w):=by
 have kqq145:=@Hz _ @nn352;exact qq145
end
theorem item_step(ts:List Tok)(hE:Cx ts)(N:Nat)(ih:Hi ts N)(ihF:GF ts N)(ihA:GA ts N):GE ts (N+1) 12 .item 30:=by
 intro P g c st w h hm;obtain⟨t,ht⟩:=Bn h.inb
 cases h0:isB t st.ok [[108,101,116]] with
 | true =>
  cases hq:ts[st.i+1]? with
  | none=>exact Xb ts hE N ih P g c st w h hm t ht h0 (fun u hu=>by rw[hq] at hu;cases hu)
  | some u =>
   cases hr:isB u st.ok [[114,101,99]] with
   | false=>exact Xb ts hE N ih P g c st w h hm t ht h0 (fun u' hu=>by rw[hq] at hu;cases hu;exact hr)
   | true=>exact item_It2 ts hE N ih P g c st w h hm t ht h0 (fun u' hu=>by rw[hq] at hu;cases hu;exact hr)
 | false =>
  cases h1:isB t st.ok [[102,117,110]] with
  | true=>exact item_fun ts hE N ih P g c st w h hm t ht h0 h1 ihF
  | false =>
   cases h2:isB t st.ok [[109,97,116,99,104]] with
   | true=>exact Zu ts hE N ih P g c st w h hm t ht h0 h1 h2 ihA
   | false =>
    cases h3:isB t st.ok [[116,114,121]] with
    | true=>exact item_try ts hE N ih P g c st w h hm t ht h0 h1 h2 h3 ihA
    | false =>
     cases h4:isB t st.ok [[105,102]] with
     | true=>exact item_if ts hE N ih P g c st w h hm t ht h0 h1 h2 h3 h4
     | false =>
      cases h5:isB t st.ok [[114,97,105,115,101]] with
      | true=>exact Zv ts hE N ih P g c st w h hm t ht h0 h1 h2 h3 h4 h5
      | false=>exact item_or ts hE N ih P g c st w h hm t ht h0 h1 h2 h3 h4 h5
end Go.Proofs.YtlafbbnikgcdlaaGreatDoor
