/- A part of the proof: WcC, WbD, WcD, Wd, Pg. -/
import Derived.BigQuiet
import Derived.Deep.QuietTactic
import Derived.Deep.DrawnRows
import Derived.Test.YtpjkfeehgookkaaGreatDoorGn7
namespace Go.Proofs.YtpjkfeehgookkaaGreatDoor
open Go.RowKit
open _root_.Go.Proofs.Tryz
set_option linter.all false
set_option maxHeartbeats 16000000
set_option maxRecDepth 100000
open List renaming getElem?_eq_getElem→Lg',append_assoc→Ls'
open Nat renaming lt_of_lt_of_le→Nl'
section
attribute [local go_sem ↓] Go.wp_at_zero Go.wp_at_succ
def WTC(pn pm:Nat)(most:Int)(lo N:Nat):Prop:=∀ (k a:Int)(nm:LB)(n:Int)(s:LB)(ls:List LB)(args:List Ah)(arms:List (Av×Ah))(v5 v6 v7:Value)(d:Nat)(D:Int)(w:World)(σ:Int),szE (.mk k a nm n s ls args arms)<N→D=d→d+szE (.mk k a nm n s ls args arms)≤1099511627776→lo≤w.heap.size →
  Ai w (fun b=>b<lo) (.mk k a nm n s ls args arms) [vI k,vI a,vS nm,vI n,vS s,v5,v6,v7]→CS pn pm most σ w→σ≤most →
  Calls prog 27 #[.agg #[vI k,vI a,vS nm,vI n,vS s,v5,v6,v7],vI D,.func (.func 29) #[] #[.pointer (some ⟨pn,0,none⟩),.pointer (some ⟨pm,0,none⟩)]] w fun e w'=>e = .returned (.bool (goL (Bx most) σ (A9 (.mk k a nm n s ls args arms) d)).2)∧CS pn pm most (goL (Bx most) σ (A9 (.mk k a nm n s ls args arms) d)).1 w'∧Fr [pn] w w'
theorem Oo(pn pm:Nat)(most:Int)(lo:Nat)(hl:lo≤pn)(N:Nat)(ih:WTC pn pm most lo N):WTC pn pm most lo (N+1):=by
 intro k a nm n s ls args arms v5 v6 v7 d D w σ hN hD hb hlo hx hs hok
 cases hx with
 | mk c5 c6 cp ce h5 e5 h6 e6 h7 e7 e8 =>
 have hsz:szE (.mk k a nm n s ls args arms)=1+(Cn args+Cp arms):=by simp[szE]
 rw[hsz] at hN hb;rw[Gv,goL]
 have hform:∃ A6 m6 cc6,v6 = .slice A6 m6 cc6∧m6=args.length:=by
  obtain⟨_,_,hv⟩:=h6.form;exact⟨_,_,_,hv,rfl⟩
 obtain⟨A6,m6,cc6,rfl,rfl⟩:=hform
 have hform:∃ A7 m7 cc7,v7 = .slice A7 m7 cc7∧m7=arms.length:=by
  obtain⟨_,_,hv⟩:=h7.form;exact⟨_,_,_,hv,rfl⟩
 obtain⟨A7,m7,cc7,rfl,rfl⟩:=hform;have IH:=Hz ih;have H6:=Hz h6;have H7:=Hz h7;have E6:Hid (∀ (i:Nat) (x:Ah),args[i]?=some x→Ai w (fun b=>b<lo) x (c6 i)):=Hz e6;have E7:Hid (∀ (i:Nat) (p:Av) (x:Ah),arms[i]?=some (p,x)→Bf w (fun b=>b<lo) p (cp i)):=Hz e7;have E8:Hid (∀ (i:Nat) (p:Av) (x:Ah),arms[i]?=some (p,x)→Ai w (fun b=>b<lo) x (ce i)):=Hz e8;have HD:=Hz hD;have HS:=Hz hs;have hpn:=Aa hs.n;have HOK:=Hz hok;have HN:=Hz hN;have hdn:(0:Int)≤D:=by omega
 have hdx:D≤1099511627776:=by omega
 have HDQ:Hid (IntKind.i64.wrap (D+1)=D+1):=Hz (IntWalk.i64_in _ (by omega));have hm6:(args.length:Int)≤4611686018427387903:=by have:args.length≤Cn args:=Pa args;omega
 have hm7:(arms.length:Int)≤4611686018427387903:=by have:arms.length≤Cp arms:=O9 arms;omega
 clear ih h5 e5 h6 e6 h7 e7 e8 hs hok hD hN hsz;generalize hR:(if ((Bx most) σ (a,d)).2=true then goL (Bx most) ((Bx most) σ (a,d)).1 (B0 args (d+1)++Bh arms (d+1))else (((Bx most) σ (a,d)).1,false))=R;have HR:=Hz hR;clear hR;go_enter func27,ntmps27;go_wp2_with fail;have f0:Fr [] w (w.alloc (.cells #[vI k,vI a,vS nm,vI n,vS s,v5,.slice A6 args.length cc6,.slice A7 arms.length cc7] 27)):=(Fr.refl [] w).alloc _;have q0:=Ab w (.cells #[vI k,vI a,vS nm,vI n,vS s,v5,.slice A6 args.length cc6,.slice A7 arms.length cc7] 27)
 generalize w.alloc (.cells #[vI k,vI a,vS nm,vI n,vS s,v5,.slice A6 args.length cc6,.slice A7 arms.length cc7] 27)=w1 at *
 have hT1:=Aa q0
 generalize hT:w.heap.size=T at *
 refine(eachC pn pm most σ a D d HD.out w1 (HS.out.fr f0) HOK.out).mono ?_;rintro e w2 ⟨rfl,hs2,f2⟩;have q0:=f2.keep q0 (by simp;omega);have f2:=(f0.mono (L':=[pn]) (fun x hx=>by cases hx)).trans f2
 cases hb1:((Bx most) σ (a,d)).2 with
 | false =>
  go_wp2_with fail;go_ret;have e:R=(((Bx most) σ (a,d)).1,false):=by rw[← HR.out,if_neg (by rw[hb1];decide)]
  rw[e]
  exact⟨rfl,hs2,f2⟩
 | true =>
  have HG:Hid (R=goL (Bx most) ((Bx most) σ (a,d)).1 (B0 (args.drop 0) (d+1)++Bh arms (d+1))):=Hz (by rw[← HR.out,if_pos hb1];rfl);have hok2:Hid (((Bx most) σ (a,d)).1≤most):=Hz (by have:=hb1;simp[Bx] at this ⊢;exact this);clear hb1 HR;have hTx:=Aa q0;obtain⟨⟨l0,l1,l2,l3,l4,l5,l6,l7⟩,_⟩:=Ac q0;go_wp2_with fail;clear l0 l1 l2 l3 l4 l5 l6 l7
  go_loopw [20] (fun iv wr=>∃ (i:Nat) (τ:Int),iv=vI i∧i≤args.length∧CS pn pm most τ wr∧Hid (τ≤most)∧Fr [pn] w wr∧wr.heap[T]?=some (.cells #[vI k,vI a,vS nm,vI n,vS s,v5,.slice A6 args.length cc6,.slice A7 arms.length cc7] 27 (0,0))∧Hid (R=goL (Bx most) τ (B0 (args.drop i) (d+1)++Bh arms (d+1)))) (fun iv wr=>args.length-(intOf iv).toNat)
  case atStart=>exact⟨0,_,rfl,by omega,hs2,hok2,f2,q0,HG⟩
  case round =>
   obtain⟨i,τ,rfl,hi,hs,hok,f,q0',HG⟩:=hrel;clear hok2 hs2 f2 q0 hTx;have q0:=q0';clear q0';have hTw:=Aa q0;by_cases hlt:i<args.length
   ·obtain⟨y,hy⟩:∃ y,args[i]?=some y:=⟨args[i],Lg' hlt⟩
    have HY:=Hz hy;clear hy;have hyx:=E6.out i y HY.out
    rcases H6.out with⟨_,_,_,hl⟩| ⟨g,og,c',hv,hg,hgs,_,hcs⟩
    ·omega
    ·cases hv;obtain⟨hcl,hcc⟩:=hcs i hlt;have hcell:∀ (j:Nat) (v:Value),(c6 i)[j]?=some v→wr.cell? ⟨g,og+i * 8+j,none⟩=some v:=fun j v hj=>(f.cell (p:=⟨g,og+i * 8+j,none⟩) hgs (by simp;omega)).trans (hcc j v hj)
     have hgw:g<wr.heap.size:=Nl' hgs (by have:=f.size;omega)
     generalize hci:c6 i=ci at *
     have hyw:=hyx.keep (w':=wr) (ok':=fun b=>b<lo) (Sh.of_fr f (fun b hb hlt=>⟨hb,by simp;omega⟩))
     cases hyx with
     | @mk k2 a2 nm2 n2 s2 ls2 args2 arms2 v52 v62 v72 c52 c62 cp2 ce2 h52 e52 h62 e62 h72 e72 e82 =>
     have hf:∃ A m cc,v52 = .slice A m cc:=by obtain⟨_,_,hv⟩:=h52.form;exact⟨_,_,_,hv⟩
     obtain⟨A52,m52,cc52,rfl⟩:=hf;have hf:∃ A m cc,v62 = .slice A m cc:=by obtain⟨_,_,hv⟩:=h62.form;exact⟨_,_,_,hv⟩
     obtain⟨A62,m62,cc62,rfl⟩:=hf;have hf:∃ A m cc,v72 = .slice A m cc:=by obtain⟨_,_,hv⟩:=h72.form;exact⟨_,_,_,hv⟩
     obtain⟨A72,m72,cc72,rfl⟩:=hf;clear h52 e52 h62 e62 h72 e72 e82;have x0:wr.cell? ⟨g,og+i * 8,none⟩=some (vI k2):=hcell 0 _ rfl;have x1:wr.cell? ⟨g,og+i * 8+1,none⟩=some (vI a2):=hcell 1 _ rfl;have x2:wr.cell? ⟨g,og+i * 8+2,none⟩=some (vS nm2):=hcell 2 _ rfl;have x3:wr.cell? ⟨g,og+i * 8+3,none⟩=some (vI n2):=hcell 3 _ rfl;have x4:wr.cell? ⟨g,og+i * 8+4,none⟩=some (vS s2):=hcell 4 _ rfl;have x5:wr.cell? ⟨g,og+i * 8+5,none⟩=some (.slice A52 m52 cc52):=hcell 5 _ rfl;have x6:wr.cell? ⟨g,og+i * 8+6,none⟩=some (.slice A62 m62 cc62):=hcell 6 _ rfl;have x7:wr.cell? ⟨g,og+i * 8+7,none⟩=some (.slice A72 m72 cc72):=hcell 7 _ rfl;have hsz2:=M1 HY.out;have cP:=fun W (hW:Fr [] wr W)=>Hz (IH.out k2 a2 nm2 n2 s2 ls2 args2 arms2 (.slice A52 m52 cc52) (.slice A62 m62 cc62) (.slice A72 m72 cc72) (d+1) (D+1) W τ (by have:=HN.out;omega) (by rw[HD.out];simp) (by omega) (by have:=f.size;have:=hW.size;omega) (hyw.keep (Sh.of_fr hW (fun b hb hlt=>⟨hb,fun x=>by cases x⟩))) (hs.fr hW) hok.out)
     have hDQ:=HDQ.out;clear hcell hci hcc hcs hcl hyw hg;have q1:(0:Int)≤(i:Int):=by omega
     have q2:(i:Int)<(args.length:Int):=by omega
     have q0:=Hz q0;go_wp2_with fail;have fb:Fr [] wr (wr.alloc (.cells #[vI k2,vI a2,vS nm2,vI n2,vS s2,.slice A52 m52 cc52,.slice A62 m62 cc62,.slice A72 m72 cc72] 27)):=(Fr.refl [] wr).alloc _;refine(cP _ fb).out.mono ?_;rintro e w3 ⟨rfl,hs3,f3⟩;clear x0 x1 x2 x3 x4 x5 x6 x7 cP hDQ;have q0:=f3.keep (Ad q0.out (.cells #[vI k2,vI a2,vS nm2,vI n2,vS s2,.slice A52 m52 cc52,.slice A62 m62 cc62,.slice A72 m72 cc72] 27)) (by simp;omega);have f3:=(fb.mono (L':=[pn]) (fun x hx=>by cases hx)).trans f3;have f4:=f.trans f3
     cases hb2:(goL (Bx most) τ (A9 (.mk k2 a2 nm2 n2 s2 ls2 args2 arms2) (d+1))).2 with
     | false =>
      go_wp2_with fail;go_ret;have e:R=((goL (Bx most) τ (A9 (.mk k2 a2 nm2 n2 s2 ls2 args2 arms2) (d+1))).1,false):=by rw[HG.out,Ev HY.out,Ls',C1,if_neg (by rw[hb2];decide)]
      rw[e]
      exact⟨rfl,hs3,f4⟩
     | true =>
      have HG2:Hid (R=goL (Bx most) (goL (Bx most) τ (A9 (.mk k2 a2 nm2 n2 s2 ls2 args2 arms2) (d+1))).1 (B0 (args.drop (i+1)) (d+1)++Bh arms (d+1))):=Hz (by rw[HG.out,Ev HY.out,Ls',C1,if_pos hb2]);have hok3:Hid ((goL (Bx most) τ (A9 (.mk k2 a2 nm2 n2 s2 ls2 args2 arms2) (d+1))).1≤most):=Hz (Kw hok.out hb2);clear hb2 HG hok;have q0:=Hz q0;go_wp2_with fail
      go_roundw
      case rel=>exact⟨i+1,_,by simp,by omega,hs3,hok3,f4,q0.out,HG2⟩
      case measure=>simp[intOf];omega
   ·have ei:i=args.length:=by omega
    subst ei;obtain⟨⟨l0,l1,l2,l3,l4,l5,l6,l7⟩,_⟩:=Ac q0;have HG2:Hid (R=goL (Bx most) τ (Bh (arms.drop 0) (d+1))):=Hz (by rw[HG.out,List.drop_length];simp[B0]);clear HG q0;go_wp2_with fail;clear l0 l1 l2 l3 l4 l5 l6 l7
    go_loopw [34] (fun iv wr=>∃ (i:Nat) (τ:Int),iv=vI i∧i≤arms.length∧CS pn pm most τ wr∧Hid (τ≤most)∧Fr [pn] w wr∧Hid (R=goL (Bx most) τ (Bh (arms.drop i) (d+1)))) (fun iv wr=>arms.length-(intOf iv).toNat)
    case atStart=>exact⟨0,_,rfl,by omega,hs,hok,f,HG2⟩
    case round =>
     clear HG2 hs hok hTw f;obtain⟨i,τ',rfl,hi',hs,hok,f,HG⟩:=hrel;by_cases hlt:i<arms.length
     ·obtain⟨p,y,hy⟩:∃ p y,arms[i]?=some (p,y):=⟨(arms[i]).1,(arms[i]).2,Lg' hlt⟩
      have HY:=Hz hy;clear hy;have hpx:=E7.out i p y HY.out;have hyx:=E8.out i p y HY.out
      rcases H7.out with⟨_,_,_,hl⟩| ⟨g,og,c',hv,hg,hgs,_,hcs⟩
      ·omega
      ·cases hv;obtain⟨hcl,hcc⟩:=hcs i hlt;have hcell:∀ (j:Nat) (v:Value),(cp i++ce i)[j]?=some v→wr.cell? ⟨g,og+i * 15+j,none⟩=some v:=fun j v hj=>(f.cell (p:=⟨g,og+i * 15+j,none⟩) hgs (by simp;omega)).trans (hcc j v hj)
       have hgw:g<wr.heap.size:=Nl' hgs (by have:=f.size;omega);clear hcc hcs
       generalize hci:cp i=ci at *
       generalize hce:ce i=cj at *
       have hyw:=hyx.keep (w':=wr) (ok':=fun b=>b<lo) (Sh.of_fr f (fun b hb hlt=>⟨hb,by simp;omega⟩));have hpw:=hpx.keep (w':=wr) (ok':=fun b=>b<lo) (Sh.of_fr f (fun b hb hlt=>⟨hb,by simp;omega⟩))
       cases hpx with
       | @mk k3 a3 nm3 n3 s3 ls3 args3 v53 v63 c53 c63 h53 e53 h63 e63 =>
       cases hyx with
       | @mk k2 a2 nm2 n2 s2 ls2 args2 arms2 v52 v62 v72 c52 c62 cp2 ce2 h52 e52 h62 e62 h72 e72 e82 =>
       have hf:∃ A m cc,v53 = .slice A m cc:=by obtain⟨_,_,hv⟩:=h53.form;exact⟨_,_,_,hv⟩
       obtain⟨A53,m53,cc53,rfl⟩:=hf;have hf:∃ A m cc,v63 = .slice A m cc:=by obtain⟨_,_,hv⟩:=h63.form;exact⟨_,_,_,hv⟩
       obtain⟨A63,m63,cc63,rfl⟩:=hf;have hf:∃ A m cc,v52 = .slice A m cc:=by obtain⟨_,_,hv⟩:=h52.form;exact⟨_,_,_,hv⟩
       obtain⟨A52,m52,cc52,rfl⟩:=hf;have hf:∃ A m cc,v62 = .slice A m cc:=by obtain⟨_,_,hv⟩:=h62.form;exact⟨_,_,_,hv⟩
       obtain⟨A62,m62,cc62,rfl⟩:=hf;have hf:∃ A m cc,v72 = .slice A m cc:=by obtain⟨_,_,hv⟩:=h72.form;exact⟨_,_,_,hv⟩
       obtain⟨A72,m72,cc72,rfl⟩:=hf;clear h52 e52 h62 e62 h72 e72 e82 h53 e53 h63 e63;have x0:wr.cell? ⟨g,og+i * 15,none⟩=some (vI k3):=hcell 0 _ rfl;have x1:wr.cell? ⟨g,og+i * 15+1,none⟩=some (vI a3):=hcell 1 _ rfl;have x2:wr.cell? ⟨g,og+i * 15+2,none⟩=some (vS nm3):=hcell 2 _ rfl;have x3:wr.cell? ⟨g,og+i * 15+3,none⟩=some (vI n3):=hcell 3 _ rfl;have x4:wr.cell? ⟨g,og+i * 15+4,none⟩=some (vS s3):=hcell 4 _ rfl;have x5:wr.cell? ⟨g,og+i * 15+5,none⟩=some (.slice A53 m53 cc53):=hcell 5 _ rfl;have x6:wr.cell? ⟨g,og+i * 15+6,none⟩=some (.slice A63 m63 cc63):=hcell 6 _ rfl;have x7:wr.cell? ⟨g,og+i * 15+7,none⟩=some (vI k2):=hcell 7 _ rfl;have x8:wr.cell? ⟨g,og+i * 15+8,none⟩=some (vI a2):=hcell 8 _ rfl;have x9:wr.cell? ⟨g,og+i * 15+9,none⟩=some (vS nm2):=hcell 9 _ rfl;have x10:wr.cell? ⟨g,og+i * 15+10,none⟩=some (vI n2):=hcell 10 _ rfl;have x11:wr.cell? ⟨g,og+i * 15+11,none⟩=some (vS s2):=hcell 11 _ rfl;have x12:wr.cell? ⟨g,og+i * 15+12,none⟩=some (.slice A52 m52 cc52):=hcell 12 _ rfl;have x13:wr.cell? ⟨g,og+i * 15+13,none⟩=some (.slice A62 m62 cc62):=hcell 13 _ rfl;have x14:wr.cell? ⟨g,og+i * 15+14,none⟩=some (.slice A72 m72 cc72):=hcell 14 _ rfl;have hsz2:=M0 HY.out;have cP:=fun W (hW:Fr [] wr W)=>Hz (Kk pn pm most lo hl (szP (.mk k3 a3 nm3 n3 s3 ls3 args3)+1) k3 a3 nm3 n3 s3 ls3 args3 (.slice A53 m53 cc53) (.slice A63 m63 cc63) (d+1) (D+1) W τ' (by omega) (by rw[HD.out];simp) (by omega) (by have:=f.size;have:=hW.size;omega) (hpw.keep (Sh.of_fr hW (fun b hb hlt=>⟨hb,fun x=>by cases x⟩))) (hs.fr hW) hok.out)
       have cE:=fun W (hW:Fr [pn] wr W) τ2 (hs2:CS pn pm most τ2 W) (hok2:τ2≤most)=>Hz (IH.out k2 a2 nm2 n2 s2 ls2 args2 arms2 (.slice A52 m52 cc52) (.slice A62 m62 cc62) (.slice A72 m72 cc72) (d+1) (D+1) W τ2 (by have:=HN.out;omega) (by rw[HD.out];simp) (by omega) (by have:=f.size;have:=hW.size;omega) (hyw.keep (Sh.of_fr hW (fun b hb hlt=>⟨hb,by simp;omega⟩))) hs2 hok2)
       have hDQ:=HDQ.out;clear hcell hci hce hcl hyw hpw hg;have q1:(0:Int)≤(i:Int):=by omega
       have q2:(i:Int)<(arms.length:Int):=by omega
       go_wp2_with fail;have fb:Fr [] wr (wr.alloc (.cells #[vI k3,vI a3,vS nm3,vI n3,vS s3,.slice A53 m53 cc53,.slice A63 m63 cc63,vI k2,vI a2,vS nm2,vI n2,vS s2,.slice A52 m52 cc52,.slice A62 m62 cc62,.slice A72 m72 cc72] 64)):=(Fr.refl [] wr).alloc _;have qb:=Ab wr (.cells #[vI k3,vI a3,vS nm3,vI n3,vS s3,.slice A53 m53 cc53,.slice A63 m63 cc63,vI k2,vI a2,vS nm2,vI n2,vS s2,.slice A52 m52 cc52,.slice A62 m62 cc62,.slice A72 m72 cc72] 64);have hTb:wr.heap.size<(wr.alloc (.cells #[vI k3,vI a3,vS nm3,vI n3,vS s3,.slice A53 m53 cc53,.slice A63 m63 cc63,vI k2,vI a2,vS nm2,vI n2,vS s2,.slice A52 m52 cc52,.slice A62 m62 cc62,.slice A72 m72 cc72] 64)).heap.size:=Aa qb;refine(cP _ fb).out.mono ?_;rintro e w3 ⟨rfl,hs3,f3⟩;clear cP x0 x1 x2 x3 x4 x5 x6 x7 x8 x9 x10 x11 x12 x13 x14;have qb:=f3.keep qb (by simp;have:=f.size;omega);have f3:=(fb.mono (L':=[pn]) (fun x hx=>by cases hx)).trans f3;have f4:=f.trans f3;have hTb3:=Aa qb
       have M15:w3.cell? ⟨wr.heap.size,0,none⟩=some (vI k3)∧w3.cell? ⟨wr.heap.size,1,none⟩=some (vI a3)∧w3.cell? ⟨wr.heap.size,2,none⟩=some (vS nm3)∧w3.cell? ⟨wr.heap.size,3,none⟩=some (vI n3)∧w3.cell? ⟨wr.heap.size,4,none⟩=some (vS s3)∧w3.cell? ⟨wr.heap.size,5,none⟩=some (.slice A53 m53 cc53)∧w3.cell? ⟨wr.heap.size,6,none⟩=some (.slice A63 m63 cc63)∧w3.cell? ⟨wr.heap.size,7,none⟩=some (vI k2)∧w3.cell? ⟨wr.heap.size,8,none⟩=some (vI a2)∧w3.cell? ⟨wr.heap.size,9,none⟩=some (vS nm2)∧w3.cell? ⟨wr.heap.size,10,none⟩=some (vI n2)∧w3.cell? ⟨wr.heap.size,11,none⟩=some (vS s2)∧w3.cell? ⟨wr.heap.size,12,none⟩=some (.slice A52 m52 cc52)∧w3.cell? ⟨wr.heap.size,13,none⟩=some (.slice A62 m62 cc62)∧w3.cell? ⟨wr.heap.size,14,none⟩=some (.slice A72 m72 cc72):=⟨Af qb 0,Af qb 1,Af qb 2,Af qb 3,Af qb 4,Af qb 5,Af qb 6,Af qb 7,Af qb 8,Af qb 9,Af qb 10,Af qb 11,Af qb 12,Af qb 13,Af qb 14⟩
       obtain⟨m0,m1,m2,m3,m4,m5,m6,m7,m8,m9,m10,m11,m12,m13,m14⟩:=M15
       cases hb2:(goL (Bx most) τ' (Ba (.mk k3 a3 nm3 n3 s3 ls3 args3) (d+1))).2 with
       | false =>
        go_wp2_with fail;go_ret;have e:R=((goL (Bx most) τ' (Ba (.mk k3 a3 nm3 n3 s3 ls3 args3) (d+1))).1,false):=by rw[HG.out,Eu HY.out,C1,if_neg (by rw[hb2];decide)]
        rw[e]
        exact⟨rfl,hs3,f4⟩
       | true =>
        have hok3:Hid ((goL (Bx most) τ' (Ba (.mk k3 a3 nm3 n3 s3 ls3 args3) (d+1))).1≤most):=Hz (Kw hok.out hb2);have HG2:Hid (R=goL (Bx most) (goL (Bx most) τ' (Ba (.mk k3 a3 nm3 n3 s3 ls3 args3) (d+1))).1 (A9 (.mk k2 a2 nm2 n2 s2 ls2 args2 arms2) (d+1)++Bh (arms.drop (i+1)) (d+1))):=Hz (by rw[HG.out,Eu HY.out,C1,if_pos hb2]);clear hb2;go_wp2_with fail;refine(cE _ f3 _ hs3 hok3.out).out.mono ?_;rintro e w4 ⟨rfl,hs4,f5⟩;clear m0 m1 m2 m3 m4 m5 m6 m7 m8 m9 m10 m11 m12 m13 m14 cE hDQ;have f6:=f4.trans f5
        cases hb3:(goL (Bx most) (goL (Bx most) τ' (Ba (.mk k3 a3 nm3 n3 s3 ls3 args3) (d+1))).1 (A9 (.mk k2 a2 nm2 n2 s2 ls2 args2 arms2) (d+1))).2 with
        | false =>
         go_wp2_with fail;go_ret;have e:R=((goL (Bx most) (goL (Bx most) τ' (Ba (.mk k3 a3 nm3 n3 s3 ls3 args3) (d+1))).1 (A9 (.mk k2 a2 nm2 n2 s2 ls2 args2 arms2) (d+1))).1,false):=by rw[HG2.out,C1,if_neg (by rw[hb3];decide)]
         rw[e]
         exact⟨rfl,hs4,f6⟩
        | true =>
         have hok4:Hid ((goL (Bx most) (goL (Bx most) τ' (Ba (.mk k3 a3 nm3 n3 s3 ls3 args3) (d+1))).1 (A9 (.mk k2 a2 nm2 n2 s2 ls2 args2 arms2) (d+1))).1≤most):=Hz (Kw hok3.out hb3);have HG3:Hid (R=goL (Bx most) (goL (Bx most) (goL (Bx most) τ' (Ba (.mk k3 a3 nm3 n3 s3 ls3 args3) (d+1))).1 (A9 (.mk k2 a2 nm2 n2 s2 ls2 args2 arms2) (d+1))).1 (Bh (arms.drop (i+1)) (d+1))):=Hz (by rw[HG2.out,C1,if_pos hb3]);clear hb3 HG2 HG hok3 hok;go_wp2_with fail
         go_roundw
         case rel=>exact⟨i+1,_,by simp,by omega,hs4,hok4,f6,HG3⟩
         case measure=>simp[intOf];omega
     ·have ei:i=arms.length:=by omega
      subst ei;go_wp2_with fail;go_ret;have e:R=(τ',true):=by rw[HG.out,List.drop_length];simp[Bh,goL]
      rw[e];exact⟨rfl,hs,f⟩
theorem Kq(pn pm:Nat)(most:Int)(lo:Nat)(hl:lo≤pn):∀ N,WTC pn pm most lo N
 | 0=>fun _ _ _ _ _ _ _ _ _ _ _ _ _ _ _ h=>absurd h (Nat.not_lt_zero _)
 | N+1=>Oo pn pm most lo hl N (Kq pn pm most lo hl N)
def PTD(pm pa pf:Nat)(most:Int)(lo N:Nat):Prop:=∀ (k a:Int)(nm:LB)(n:Int)(s:LB)(ls:List LB)(args:List Av)(v5 v6:Value)(d:Nat)(D:Int)(w:World)(σ:(Int×Bool)),szP (.mk k a nm n s ls args)<N→D=d→d+szP (.mk k a nm n s ls args)≤1099511627776→lo≤w.heap.size →
  Bf w (fun b=>b<lo) (.mk k a nm n s ls args) [vI k,vI a,vS nm,vI n,vS s,v5,v6]→DS pm pa pf most σ w→σ.2=false →
  Calls prog 40 #[.agg #[vI k,vI a,vS nm,vI n,vS s,v5,v6],vI D,.func (.func 28) #[] #[.pointer (some ⟨pm,0,none⟩),.pointer (some ⟨pa,0,none⟩),.pointer (some ⟨pf,0,none⟩)]] w fun e w'=>e = .returned (.bool (goL (A2 most) σ (Ba (.mk k a nm n s ls args) d)).2)∧DS pm pa pf most (goL (A2 most) σ (Ba (.mk k a nm n s ls args) d)).1 w'∧Fr [pa,pf] w w'
theorem N8(pm pa pf:Nat)(most:Int)(lo:Nat)(hl:lo≤pa)(hl2:lo≤pf)(N:Nat)(ih:PTD pm pa pf most lo N):PTD pm pa pf most lo (N+1):=by
 intro k a nm n s ls args v5 v6 d D w σ hN hD hb hlo hx hs hok;have hx0:=hx
 cases hx with
 | mk c5 c6 h5 e5 h6 e6 =>
 have hsz:szP (.mk k a nm n s ls args)=1+Ej args:=by simp[szP]
 rw[hsz] at hN hb;rw[Gw,goL]
 have hform:∃ A6 m6 cc6,v6 = .slice A6 m6 cc6∧m6=args.length:=by
  obtain⟨_,_,hv⟩:=h6.form;exact⟨_,_,_,hv,rfl⟩
 obtain⟨A6,m6,cc6,rfl,rfl⟩:=hform;have IH:=Hz ih;have H6:=Hz h6;have E6:Hid (∀ (i:Nat) (x:Av),args[i]?=some x→Bf w (fun b=>b<lo) x (c6 i)):=Hz e6;have HD:=Hz hD;have HS:=Hz hs;have hpn:=Aa hs.a;have hpn2:=Aa hs.f;have HOK:=Hz hok;have HN:=Hz hN;have HSZ:=Hz hsz;have hdn:(0:Int)≤D:=by omega
 have hdx:D≤1099511627776:=by omega
 have HDQ:Hid (IntKind.i64.wrap (D+1)=D+1):=Hz (IntWalk.i64_in _ (by omega));have hm6:(args.length:Int)≤4611686018427387903:=by have:args.length≤Ej args:=Pb args;omega
 clear ih h5 e5 h6 e6 hs hok hD hN hsz hx0;generalize hR:(if ((A2 most) σ (a,d)).2=true then goL (A2 most) ((A2 most) σ (a,d)).1 (B1 args (d+1))else (((A2 most) σ (a,d)).1,false))=R;have HR:=Hz hR;clear hR;go_enter func40,ntmps40;go_wp2_with fail;have f0:Fr [] w (w.alloc (.cells #[vI k,vI a,vS nm,vI n,vS s,v5,.slice A6 args.length cc6] 62)):=(Fr.refl [] w).alloc _;have q0:=Ab w (.cells #[vI k,vI a,vS nm,vI n,vS s,v5,.slice A6 args.length cc6] 62)
 generalize w.alloc (.cells #[vI k,vI a,vS nm,vI n,vS s,v5,.slice A6 args.length cc6] 62)=w1 at *
 have hT1:=Aa q0
 generalize hT:w.heap.size=T at *
 refine(eachD pm pa pf most σ a D d HD.out w1 (HS.out.fr f0) HOK.out).mono ?_;rintro e w2 ⟨rfl,hs2,f2⟩;have hl0:=Aa hs2.a;have q0:=f2.keep q0 (by simp;omega);have f2:=(f0.mono (L':=[pa,pf]) (fun x hx=>by cases hx)).trans f2
 cases hb1:((A2 most) σ (a,d)).2 with
 | false =>
  go_wp2_with fail;go_ret;have e:R=(((A2 most) σ (a,d)).1,false):=by rw[← HR.out,if_neg (by rw[hb1];decide)]
  rw[e]
  exact⟨rfl,hs2,f2⟩
 | true =>
  have HG:Hid (R=goL (A2 most) ((A2 most) σ (a,d)).1 (B1 (args.drop 0) (d+1))):=Hz (by rw[← HR.out,if_pos hb1];rfl);have hok2:Hid (((A2 most) σ (a,d)).1.2=false):=Hz (L7 HOK.out hb1);clear hb1 HR;have hTx:=Aa q0;obtain⟨⟨l0,l1,l2,l3,l4,l5,l6⟩,_⟩:=Ao q0;go_wp2_with fail;clear l0 l1 l2 l3 l4 l5 l6
  go_loopw [18] (fun iv wr=>∃ (i:Nat) (τ:(Int×Bool)),iv=vI i∧i≤args.length∧DS pm pa pf most τ wr∧Hid (τ.2=false)∧Fr [pa,pf] w wr∧Hid (R=goL (A2 most) τ (B1 (args.drop i) (d+1)))) (fun iv wr=>args.length-(intOf iv).toNat)
  case atStart=>exact⟨0,_,rfl,by omega,hs2,hok2,f2,HG⟩
  case round =>
   obtain⟨i,τ,rfl,hi,hs,hok,f,HG⟩:=hrel;clear hok2 hs2 f2 q0 hTx hl0;by_cases hlt:i<args.length
   ·obtain⟨y,hy⟩:∃ y,args[i]?=some y:=⟨args[i],Lg' hlt⟩
    have HY:=Hz hy;clear hy;have hyx:=E6.out i y HY.out
    rcases H6.out with⟨_,_,_,hl⟩| ⟨g,og,c',hv,hg,hgs,_,hcs⟩
    ·omega
    ·cases hv;obtain⟨hcl,hcc⟩:=hcs i hlt;have hcell:∀ (j:Nat) (v:Value),(c6 i)[j]?=some v→wr.cell? ⟨g,og+i * 7+j,none⟩=some v:=fun j v hj=>(f.cell (p:=⟨g,og+i * 7+j,none⟩) hgs (by simp;omega)).trans (hcc j v hj)
     have hgw:g<wr.heap.size:=Nl' hgs (by have:=f.size;omega)
     generalize hci:c6 i=ci at *
     have hyw:=hyx.keep (w':=wr) (ok':=fun b=>b<lo) (Sh.of_fr f (fun b hb hlt=>⟨hb,by simp;omega⟩))
     cases hyx with
     | @mk k2 a2 nm2 n2 s2 ls2 args2 v52 v62 c52 c62 h52 e52 h62 e62 =>
     have hf5:∃ A m cc,v52 = .slice A m cc:=by obtain⟨_,_,hv⟩:=h52.form;exact⟨_,_,_,hv⟩
     have hf6:∃ A m cc,v62 = .slice A m cc:=by obtain⟨_,_,hv⟩:=h62.form;exact⟨_,_,_,hv⟩
     clear h52 e52 h62 e62;obtain⟨A52,m52,cc52,rfl⟩:=hf5;obtain⟨A62,m62,cc62,rfl⟩:=hf6;have x0:wr.cell? ⟨g,og+i * 7,none⟩=some (vI k2):=hcell 0 _ rfl;have x1:wr.cell? ⟨g,og+i * 7+1,none⟩=some (vI a2):=hcell 1 _ rfl;have x2:wr.cell? ⟨g,og+i * 7+2,none⟩=some (vS nm2):=hcell 2 _ rfl;have x3:wr.cell? ⟨g,og+i * 7+3,none⟩=some (vI n2):=hcell 3 _ rfl;have x4:wr.cell? ⟨g,og+i * 7+4,none⟩=some (vS s2):=hcell 4 _ rfl;have x5:wr.cell? ⟨g,og+i * 7+5,none⟩=some (.slice A52 m52 cc52):=hcell 5 _ rfl;have x6:wr.cell? ⟨g,og+i * 7+6,none⟩=some (.slice A62 m62 cc62):=hcell 6 _ rfl;have hsz2:=M8 HY.out;have cP:=fun W (hW:Fr [] wr W)=>Hz (IH.out k2 a2 nm2 n2 s2 ls2 args2 (.slice A52 m52 cc52) (.slice A62 m62 cc62) (d+1) (D+1) W τ (by have:=HN.out;omega) (by rw[HD.out];simp) (by omega) (by have:=f.size;have:=hW.size;omega) (hyw.keep (Sh.of_fr hW (fun b hb hlt=>⟨hb,fun x=>by cases x⟩))) (hs.fr hW) hok.out)
     have hDQ:=HDQ.out;clear hcell hci hcc hcs hcl hyw hg;have q1:(0:Int)≤(i:Int):=by omega
     have q2:(i:Int)<(args.length:Int):=by omega
     go_wp2_with fail;have fb:Fr [] wr (wr.alloc (.cells #[vI k2,vI a2,vS nm2,vI n2,vS s2,.slice A52 m52 cc52,.slice A62 m62 cc62] 62)):=(Fr.refl [] wr).alloc _;refine(cP _ fb).out.mono ?_;rintro e w3 ⟨rfl,hs3,f3⟩;clear x0 x1 x2 x3 x4 x5 x6 cP hDQ;have f3:=(fb.mono (L':=[pa,pf]) (fun x hx=>by cases hx)).trans f3;have f4:=f.trans f3
     cases hb2:(goL (A2 most) τ (Ba (.mk k2 a2 nm2 n2 s2 ls2 args2) (d+1))).2 with
     | false =>
      go_wp2_with fail;go_ret;have e:R=((goL (A2 most) τ (Ba (.mk k2 a2 nm2 n2 s2 ls2 args2) (d+1))).1,false):=by rw[HG.out,Ew HY.out,C1,if_neg (by rw[hb2];decide)]
      rw[e]
      exact⟨rfl,hs3,f4⟩
     | true =>
      have HG2:Hid (R=goL (A2 most) (goL (A2 most) τ (Ba (.mk k2 a2 nm2 n2 s2 ls2 args2) (d+1))).1 (B1 (args.drop (i+1)) (d+1))):=Hz (by rw[HG.out,Ew HY.out,C1,if_pos hb2]);have hok3:Hid ((goL (A2 most) τ (Ba (.mk k2 a2 nm2 n2 s2 ls2 args2) (d+1))).1.2=false):=Hz (I4 hok.out hb2);clear hb2 HG hok;go_wp2_with fail
      go_roundw
      case rel=>exact⟨i+1,_,by simp,by omega,hs3,hok3,f4,HG2⟩
      case measure=>simp[intOf];omega
   ·have ei:i=args.length:=by omega
    subst ei;go_wp2_with fail;go_ret;have e:R=(τ,true):=by rw[HG.out,List.drop_length];simp[B1,goL]
    rw[e];exact⟨rfl,hs,f⟩
theorem Kl(pm pa pf:Nat)(most:Int)(lo:Nat)(hl:lo≤pa)(hl2:lo≤pf):∀ N,PTD pm pa pf most lo N
 | 0=>fun _ _ _ _ _ _ _ _ _ _ _ _ _ h=>absurd h (Nat.not_lt_zero _)
 | N+1=>N8 pm pa pf most lo hl hl2 N (Kl pm pa pf most lo hl hl2 N)
def WTD(pm pa pf:Nat)(most:Int)(lo N:Nat):Prop:=∀ (k a:Int)(nm:LB)(n:Int)(s:LB)(ls:List LB)(args:List Ah)(arms:List (Av×Ah))(v5 v6 v7:Value)(d:Nat)(D:Int)(w:World)(σ:(Int×Bool)),szE (.mk k a nm n s ls args arms)<N→D=d→d+szE (.mk k a nm n s ls args arms)≤1099511627776→lo≤w.heap.size →
  Ai w (fun b=>b<lo) (.mk k a nm n s ls args arms) [vI k,vI a,vS nm,vI n,vS s,v5,v6,v7]→DS pm pa pf most σ w→σ.2=false →
  Calls prog 27 #[.agg #[vI k,vI a,vS nm,vI n,vS s,v5,v6,v7],vI D,.func (.func 28) #[] #[.pointer (some ⟨pm,0,none⟩),.pointer (some ⟨pa,0,none⟩),.pointer (some ⟨pf,0,none⟩)]] w fun e w'=>e = .returned (.bool (goL (A2 most) σ (A9 (.mk k a nm n s ls args arms) d)).2)∧DS pm pa pf most (goL (A2 most) σ (A9 (.mk k a nm n s ls args arms) d)).1 w'∧Fr [pa,pf] w w'
theorem Op(pm pa pf:Nat)(most:Int)(lo:Nat)(hl:lo≤pa)(hl2:lo≤pf)(N:Nat)(ih:WTD pm pa pf most lo N):WTD pm pa pf most lo (N+1):=by
 intro k a nm n s ls args arms v5 v6 v7 d D w σ hN hD hb hlo hx hs hok
 cases hx with
 | mk c5 c6 cp ce h5 e5 h6 e6 h7 e7 e8 =>
 have hsz:szE (.mk k a nm n s ls args arms)=1+(Cn args+Cp arms):=by simp[szE]
 rw[hsz] at hN hb;rw[Gv,goL]
 have hform:∃ A6 m6 cc6,v6 = .slice A6 m6 cc6∧m6=args.length:=by
  obtain⟨_,_,hv⟩:=h6.form;exact⟨_,_,_,hv,rfl⟩
 obtain⟨A6,m6,cc6,rfl,rfl⟩:=hform
 have hform:∃ A7 m7 cc7,v7 = .slice A7 m7 cc7∧m7=arms.length:=by
  obtain⟨_,_,hv⟩:=h7.form;exact⟨_,_,_,hv,rfl⟩
 obtain⟨A7,m7,cc7,rfl,rfl⟩:=hform;have IH:=Hz ih;have H6:=Hz h6;have H7:=Hz h7;have E6:Hid (∀ (i:Nat) (x:Ah),args[i]?=some x→Ai w (fun b=>b<lo) x (c6 i)):=Hz e6;have E7:Hid (∀ (i:Nat) (p:Av) (x:Ah),arms[i]?=some (p,x)→Bf w (fun b=>b<lo) p (cp i)):=Hz e7;have E8:Hid (∀ (i:Nat) (p:Av) (x:Ah),arms[i]?=some (p,x)→Ai w (fun b=>b<lo) x (ce i)):=Hz e8;have HD:=Hz hD;have HS:=Hz hs;have hpn:=Aa hs.a;have hpn2:=Aa hs.f;have HOK:=Hz hok;have HN:=Hz hN;have hdn:(0:Int)≤D:=by omega
 have hdx:D≤1099511627776:=by omega
 have HDQ:Hid (IntKind.i64.wrap (D+1)=D+1):=Hz (IntWalk.i64_in _ (by omega));have hm6:(args.length:Int)≤4611686018427387903:=by have:args.length≤Cn args:=Pa args;omega
 have hm7:(arms.length:Int)≤4611686018427387903:=by have:arms.length≤Cp arms:=O9 arms;omega
 clear ih h5 e5 h6 e6 h7 e7 e8 hs hok hD hN hsz;generalize hR:(if ((A2 most) σ (a,d)).2=true then goL (A2 most) ((A2 most) σ (a,d)).1 (B0 args (d+1)++Bh arms (d+1))else (((A2 most) σ (a,d)).1,false))=R;have HR:=Hz hR;clear hR;go_enter func27,ntmps27;go_wp2_with fail;have f0:Fr [] w (w.alloc (.cells #[vI k,vI a,vS nm,vI n,vS s,v5,.slice A6 args.length cc6,.slice A7 arms.length cc7] 27)):=(Fr.refl [] w).alloc _;have q0:=Ab w (.cells #[vI k,vI a,vS nm,vI n,vS s,v5,.slice A6 args.length cc6,.slice A7 arms.length cc7] 27)
 generalize w.alloc (.cells #[vI k,vI a,vS nm,vI n,vS s,v5,.slice A6 args.length cc6,.slice A7 arms.length cc7] 27)=w1 at *
 have hT1:=Aa q0
 generalize hT:w.heap.size=T at *
 refine(eachD pm pa pf most σ a D d HD.out w1 (HS.out.fr f0) HOK.out).mono ?_;rintro e w2 ⟨rfl,hs2,f2⟩;have q0:=f2.keep q0 (by simp;omega);have f2:=(f0.mono (L':=[pa,pf]) (fun x hx=>by cases hx)).trans f2
 cases hb1:((A2 most) σ (a,d)).2 with
 | false =>
  go_wp2_with fail;go_ret;have e:R=(((A2 most) σ (a,d)).1,false):=by rw[← HR.out,if_neg (by rw[hb1];decide)]
  rw[e]
  exact⟨rfl,hs2,f2⟩
 | true =>
  have HG:Hid (R=goL (A2 most) ((A2 most) σ (a,d)).1 (B0 (args.drop 0) (d+1)++Bh arms (d+1))):=Hz (by rw[← HR.out,if_pos hb1];rfl);have hok2:Hid (((A2 most) σ (a,d)).1.2=false):=Hz (L7 HOK.out hb1);clear hb1 HR;have hTx:=Aa q0;obtain⟨⟨l0,l1,l2,l3,l4,l5,l6,l7⟩,_⟩:=Ac q0;go_wp2_with fail;clear l0 l1 l2 l3 l4 l5 l6 l7
  go_loopw [20] (fun iv wr=>∃ (i:Nat) (τ:(Int×Bool)),iv=vI i∧i≤args.length∧DS pm pa pf most τ wr∧Hid (τ.2=false)∧Fr [pa,pf] w wr∧wr.heap[T]?=some (.cells #[vI k,vI a,vS nm,vI n,vS s,v5,.slice A6 args.length cc6,.slice A7 arms.length cc7] 27 (0,0))∧Hid (R=goL (A2 most) τ (B0 (args.drop i) (d+1)++Bh arms (d+1)))) (fun iv wr=>args.length-(intOf iv).toNat)
  case atStart=>exact⟨0,_,rfl,by omega,hs2,hok2,f2,q0,HG⟩
  case round =>
   obtain⟨i,τ,rfl,hi,hs,hok,f,q0',HG⟩:=hrel;clear hok2 hs2 f2 q0 hTx;have q0:=q0';clear q0';have hTw:=Aa q0;by_cases hlt:i<args.length
   ·obtain⟨y,hy⟩:∃ y,args[i]?=some y:=⟨args[i],Lg' hlt⟩
    have HY:=Hz hy;clear hy;have hyx:=E6.out i y HY.out
    rcases H6.out with⟨_,_,_,hl⟩| ⟨g,og,c',hv,hg,hgs,_,hcs⟩
    ·omega
    ·cases hv;obtain⟨hcl,hcc⟩:=hcs i hlt;have hcell:∀ (j:Nat) (v:Value),(c6 i)[j]?=some v→wr.cell? ⟨g,og+i * 8+j,none⟩=some v:=fun j v hj=>(f.cell (p:=⟨g,og+i * 8+j,none⟩) hgs (by simp;omega)).trans (hcc j v hj)
     have hgw:g<wr.heap.size:=Nl' hgs (by have:=f.size;omega)
     generalize hci:c6 i=ci at *
     have hyw:=hyx.keep (w':=wr) (ok':=fun b=>b<lo) (Sh.of_fr f (fun b hb hlt=>⟨hb,by simp;omega⟩))
     cases hyx with
     | @mk k2 a2 nm2 n2 s2 ls2 args2 arms2 v52 v62 v72 c52 c62 cp2 ce2 h52 e52 h62 e62 h72 e72 e82 =>
     have hf:∃ A m cc,v52 = .slice A m cc:=by obtain⟨_,_,hv⟩:=h52.form;exact⟨_,_,_,hv⟩
     obtain⟨A52,m52,cc52,rfl⟩:=hf;have hf:∃ A m cc,v62 = .slice A m cc:=by obtain⟨_,_,hv⟩:=h62.form;exact⟨_,_,_,hv⟩
     obtain⟨A62,m62,cc62,rfl⟩:=hf;have hf:∃ A m cc,v72 = .slice A m cc:=by obtain⟨_,_,hv⟩:=h72.form;exact⟨_,_,_,hv⟩
     obtain⟨A72,m72,cc72,rfl⟩:=hf;clear h52 e52 h62 e62 h72 e72 e82;have x0:wr.cell? ⟨g,og+i * 8,none⟩=some (vI k2):=hcell 0 _ rfl;have x1:wr.cell? ⟨g,og+i * 8+1,none⟩=some (vI a2):=hcell 1 _ rfl;have x2:wr.cell? ⟨g,og+i * 8+2,none⟩=some (vS nm2):=hcell 2 _ rfl;have x3:wr.cell? ⟨g,og+i * 8+3,none⟩=some (vI n2):=hcell 3 _ rfl;have x4:wr.cell? ⟨g,og+i * 8+4,none⟩=some (vS s2):=hcell 4 _ rfl;have x5:wr.cell? ⟨g,og+i * 8+5,none⟩=some (.slice A52 m52 cc52):=hcell 5 _ rfl;have x6:wr.cell? ⟨g,og+i * 8+6,none⟩=some (.slice A62 m62 cc62):=hcell 6 _ rfl;have x7:wr.cell? ⟨g,og+i * 8+7,none⟩=some (.slice A72 m72 cc72):=hcell 7 _ rfl;have hsz2:=M1 HY.out;have cP:=fun W (hW:Fr [] wr W)=>Hz (IH.out k2 a2 nm2 n2 s2 ls2 args2 arms2 (.slice A52 m52 cc52) (.slice A62 m62 cc62) (.slice A72 m72 cc72) (d+1) (D+1) W τ (by have:=HN.out;omega) (by rw[HD.out];simp) (by omega) (by have:=f.size;have:=hW.size;omega) (hyw.keep (Sh.of_fr hW (fun b hb hlt=>⟨hb,fun x=>by cases x⟩))) (hs.fr hW) hok.out)
     have hDQ:=HDQ.out;clear hcell hci hcc hcs hcl hyw hg;have q1:(0:Int)≤(i:Int):=by omega
     have q2:(i:Int)<(args.length:Int):=by omega
     have q0:=Hz q0;go_wp2_with fail;have fb:Fr [] wr (wr.alloc (.cells #[vI k2,vI a2,vS nm2,vI n2,vS s2,.slice A52 m52 cc52,.slice A62 m62 cc62,.slice A72 m72 cc72] 27)):=(Fr.refl [] wr).alloc _;refine(cP _ fb).out.mono ?_;rintro e w3 ⟨rfl,hs3,f3⟩;clear x0 x1 x2 x3 x4 x5 x6 x7 cP hDQ;have q0:=f3.keep (Ad q0.out (.cells #[vI k2,vI a2,vS nm2,vI n2,vS s2,.slice A52 m52 cc52,.slice A62 m62 cc62,.slice A72 m72 cc72] 27)) (by simp;omega);have f3:=(fb.mono (L':=[pa,pf]) (fun x hx=>by cases hx)).trans f3;have f4:=f.trans f3
     cases hb2:(goL (A2 most) τ (A9 (.mk k2 a2 nm2 n2 s2 ls2 args2 arms2) (d+1))).2 with
     | false =>
      go_wp2_with fail;go_ret;have e:R=((goL (A2 most) τ (A9 (.mk k2 a2 nm2 n2 s2 ls2 args2 arms2) (d+1))).1,false):=by rw[HG.out,Ev HY.out,Ls',C1,if_neg (by rw[hb2];decide)]
      rw[e]
      exact⟨rfl,hs3,f4⟩
     | true =>
      have HG2:Hid (R=goL (A2 most) (goL (A2 most) τ (A9 (.mk k2 a2 nm2 n2 s2 ls2 args2 arms2) (d+1))).1 (B0 (args.drop (i+1)) (d+1)++Bh arms (d+1))):=Hz (by rw[HG.out,Ev HY.out,Ls',C1,if_pos hb2]);have hok3:Hid ((goL (A2 most) τ (A9 (.mk k2 a2 nm2 n2 s2 ls2 args2 arms2) (d+1))).1.2=false):=Hz (I4 hok.out hb2);clear hb2 HG hok;have q0:=Hz q0;go_wp2_with fail
      go_roundw
      case rel=>exact⟨i+1,_,by simp,by omega,hs3,hok3,f4,q0.out,HG2⟩
      case measure=>simp[intOf];omega
   ·have ei:i=args.length:=by omega
    subst ei;obtain⟨⟨l0,l1,l2,l3,l4,l5,l6,l7⟩,_⟩:=Ac q0;have HG2:Hid (R=goL (A2 most) τ (Bh (arms.drop 0) (d+1))):=Hz (by rw[HG.out,List.drop_length];simp[B0]);clear HG q0;go_wp2_with fail;clear l0 l1 l2 l3 l4 l5 l6 l7
    go_loopw [34] (fun iv wr=>∃ (i:Nat) (τ:(Int×Bool)),iv=vI i∧i≤arms.length∧DS pm pa pf most τ wr∧Hid (τ.2=false)∧Fr [pa,pf] w wr∧Hid (R=goL (A2 most) τ (Bh (arms.drop i) (d+1)))) (fun iv wr=>arms.length-(intOf iv).toNat)
    case atStart=>exact⟨0,_,rfl,by omega,hs,hok,f,HG2⟩
    case round =>
     clear HG2 hs hok hTw f;obtain⟨i,τ',rfl,hi',hs,hok,f,HG⟩:=hrel;by_cases hlt:i<arms.length
     ·obtain⟨p,y,hy⟩:∃ p y,arms[i]?=some (p,y):=⟨(arms[i]).1,(arms[i]).2,Lg' hlt⟩
      have HY:=Hz hy;clear hy;have hpx:=E7.out i p y HY.out;have hyx:=E8.out i p y HY.out
      rcases H7.out with⟨_,_,_,hl⟩| ⟨g,og,c',hv,hg,hgs,_,hcs⟩
      ·omega
      ·cases hv;obtain⟨hcl,hcc⟩:=hcs i hlt;have hcell:∀ (j:Nat) (v:Value),(cp i++ce i)[j]?=some v→wr.cell? ⟨g,og+i * 15+j,none⟩=some v:=fun j v hj=>(f.cell (p:=⟨g,og+i * 15+j,none⟩) hgs (by simp;omega)).trans (hcc j v hj)
       have hgw:g<wr.heap.size:=Nl' hgs (by have:=f.size;omega);clear hcc hcs
       generalize hci:cp i=ci at *
       generalize hce:ce i=cj at *
       have hyw:=hyx.keep (w':=wr) (ok':=fun b=>b<lo) (Sh.of_fr f (fun b hb hlt=>⟨hb,by simp;omega⟩));have hpw:=hpx.keep (w':=wr) (ok':=fun b=>b<lo) (Sh.of_fr f (fun b hb hlt=>⟨hb,by simp;omega⟩))
       cases hpx with
       | @mk k3 a3 nm3 n3 s3 ls3 args3 v53 v63 c53 c63 h53 e53 h63 e63 =>
       cases hyx with
       | @mk k2 a2 nm2 n2 s2 ls2 args2 arms2 v52 v62 v72 c52 c62 cp2 ce2 h52 e52 h62 e62 h72 e72 e82 =>
       have hf:∃ A m cc,v53 = .slice A m cc:=by obtain⟨_,_,hv⟩:=h53.form;exact⟨_,_,_,hv⟩
       obtain⟨A53,m53,cc53,rfl⟩:=hf;have hf:∃ A m cc,v63 = .slice A m cc:=by obtain⟨_,_,hv⟩:=h63.form;exact⟨_,_,_,hv⟩
       obtain⟨A63,m63,cc63,rfl⟩:=hf;have hf:∃ A m cc,v52 = .slice A m cc:=by obtain⟨_,_,hv⟩:=h52.form;exact⟨_,_,_,hv⟩
       obtain⟨A52,m52,cc52,rfl⟩:=hf;have hf:∃ A m cc,v62 = .slice A m cc:=by obtain⟨_,_,hv⟩:=h62.form;exact⟨_,_,_,hv⟩
       obtain⟨A62,m62,cc62,rfl⟩:=hf;have hf:∃ A m cc,v72 = .slice A m cc:=by obtain⟨_,_,hv⟩:=h72.form;exact⟨_,_,_,hv⟩
       obtain⟨A72,m72,cc72,rfl⟩:=hf;clear h52 e52 h62 e62 h72 e72 e82 h53 e53 h63 e63;have x0:wr.cell? ⟨g,og+i * 15,none⟩=some (vI k3):=hcell 0 _ rfl;have x1:wr.cell? ⟨g,og+i * 15+1,none⟩=some (vI a3):=hcell 1 _ rfl;have x2:wr.cell? ⟨g,og+i * 15+2,none⟩=some (vS nm3):=hcell 2 _ rfl;have x3:wr.cell? ⟨g,og+i * 15+3,none⟩=some (vI n3):=hcell 3 _ rfl;have x4:wr.cell? ⟨g,og+i * 15+4,none⟩=some (vS s3):=hcell 4 _ rfl;have x5:wr.cell? ⟨g,og+i * 15+5,none⟩=some (.slice A53 m53 cc53):=hcell 5 _ rfl;have x6:wr.cell? ⟨g,og+i * 15+6,none⟩=some (.slice A63 m63 cc63):=hcell 6 _ rfl;have x7:wr.cell? ⟨g,og+i * 15+7,none⟩=some (vI k2):=hcell 7 _ rfl;have x8:wr.cell? ⟨g,og+i * 15+8,none⟩=some (vI a2):=hcell 8 _ rfl;have x9:wr.cell? ⟨g,og+i * 15+9,none⟩=some (vS nm2):=hcell 9 _ rfl;have x10:wr.cell? ⟨g,og+i * 15+10,none⟩=some (vI n2):=hcell 10 _ rfl;have x11:wr.cell? ⟨g,og+i * 15+11,none⟩=some (vS s2):=hcell 11 _ rfl;have x12:wr.cell? ⟨g,og+i * 15+12,none⟩=some (.slice A52 m52 cc52):=hcell 12 _ rfl;have x13:wr.cell? ⟨g,og+i * 15+13,none⟩=some (.slice A62 m62 cc62):=hcell 13 _ rfl;have x14:wr.cell? ⟨g,og+i * 15+14,none⟩=some (.slice A72 m72 cc72):=hcell 14 _ rfl;have hsz2:=M0 HY.out;have cP:=fun W (hW:Fr [] wr W)=>Hz (Kl pm pa pf most lo hl hl2 (szP (.mk k3 a3 nm3 n3 s3 ls3 args3)+1) k3 a3 nm3 n3 s3 ls3 args3 (.slice A53 m53 cc53) (.slice A63 m63 cc63) (d+1) (D+1) W τ' (by omega) (by rw[HD.out];simp) (by omega) (by have:=f.size;have:=hW.size;omega) (hpw.keep (Sh.of_fr hW (fun b hb hlt=>⟨hb,fun x=>by cases x⟩))) (hs.fr hW) hok.out)
       have cE:=fun W (hW:Fr [pa,pf] wr W) τ2 (hs2:DS pm pa pf most τ2 W) (hok2:τ2.2=false)=>Hz (IH.out k2 a2 nm2 n2 s2 ls2 args2 arms2 (.slice A52 m52 cc52) (.slice A62 m62 cc62) (.slice A72 m72 cc72) (d+1) (D+1) W τ2 (by have:=HN.out;omega) (by rw[HD.out];simp) (by omega) (by have:=f.size;have:=hW.size;omega) (hyw.keep (Sh.of_fr hW (fun b hb hlt=>⟨hb,by simp;omega⟩))) hs2 hok2)
       have hDQ:=HDQ.out;clear hcell hci hce hcl hyw hpw hg;have q1:(0:Int)≤(i:Int):=by omega
       have q2:(i:Int)<(arms.length:Int):=by omega
       go_wp2_with fail;have fb:Fr [] wr (wr.alloc (.cells #[vI k3,vI a3,vS nm3,vI n3,vS s3,.slice A53 m53 cc53,.slice A63 m63 cc63,vI k2,vI a2,vS nm2,vI n2,vS s2,.slice A52 m52 cc52,.slice A62 m62 cc62,.slice A72 m72 cc72] 64)):=(Fr.refl [] wr).alloc _;have qb:=Ab wr (.cells #[vI k3,vI a3,vS nm3,vI n3,vS s3,.slice A53 m53 cc53,.slice A63 m63 cc63,vI k2,vI a2,vS nm2,vI n2,vS s2,.slice A52 m52 cc52,.slice A62 m62 cc62,.slice A72 m72 cc72] 64);have hTb:wr.heap.size<(wr.alloc (.cells #[vI k3,vI a3,vS nm3,vI n3,vS s3,.slice A53 m53 cc53,.slice A63 m63 cc63,vI k2,vI a2,vS nm2,vI n2,vS s2,.slice A52 m52 cc52,.slice A62 m62 cc62,.slice A72 m72 cc72] 64)).heap.size:=Aa qb;refine(cP _ fb).out.mono ?_;rintro e w3 ⟨rfl,hs3,f3⟩;clear cP x0 x1 x2 x3 x4 x5 x6 x7 x8 x9 x10 x11 x12 x13 x14;have qb:=f3.keep qb (by simp;have:=f.size;omega);have f3:=(fb.mono (L':=[pa,pf]) (fun x hx=>by cases hx)).trans f3;have f4:=f.trans f3;have hTb3:=Aa qb
       have M15:w3.cell? ⟨wr.heap.size,0,none⟩=some (vI k3)∧w3.cell? ⟨wr.heap.size,1,none⟩=some (vI a3)∧w3.cell? ⟨wr.heap.size,2,none⟩=some (vS nm3)∧w3.cell? ⟨wr.heap.size,3,none⟩=some (vI n3)∧w3.cell? ⟨wr.heap.size,4,none⟩=some (vS s3)∧w3.cell? ⟨wr.heap.size,5,none⟩=some (.slice A53 m53 cc53)∧w3.cell? ⟨wr.heap.size,6,none⟩=some (.slice A63 m63 cc63)∧w3.cell? ⟨wr.heap.size,7,none⟩=some (vI k2)∧w3.cell? ⟨wr.heap.size,8,none⟩=some (vI a2)∧w3.cell? ⟨wr.heap.size,9,none⟩=some (vS nm2)∧w3.cell? ⟨wr.heap.size,10,none⟩=some (vI n2)∧w3.cell? ⟨wr.heap.size,11,none⟩=some (vS s2)∧w3.cell? ⟨wr.heap.size,12,none⟩=some (.slice A52 m52 cc52)∧w3.cell? ⟨wr.heap.size,13,none⟩=some (.slice A62 m62 cc62)∧w3.cell? ⟨wr.heap.size,14,none⟩=some (.slice A72 m72 cc72):=⟨Af qb 0,Af qb 1,Af qb 2,Af qb 3,Af qb 4,Af qb 5,Af qb 6,Af qb 7,Af qb 8,Af qb 9,Af qb 10,Af qb 11,Af qb 12,Af qb 13,Af qb 14⟩
       obtain⟨m0,m1,m2,m3,m4,m5,m6,m7,m8,m9,m10,m11,m12,m13,m14⟩:=M15
       cases hb2:(goL (A2 most) τ' (Ba (.mk k3 a3 nm3 n3 s3 ls3 args3) (d+1))).2 with
       | false =>
        go_wp2_with fail;go_ret;have e:R=((goL (A2 most) τ' (Ba (.mk k3 a3 nm3 n3 s3 ls3 args3) (d+1))).1,false):=by rw[HG.out,Eu HY.out,C1,if_neg (by rw[hb2];decide)]
        rw[e]
        exact⟨rfl,hs3,f4⟩
       | true =>
        have hok3:Hid ((goL (A2 most) τ' (Ba (.mk k3 a3 nm3 n3 s3 ls3 args3) (d+1))).1.2=false):=Hz (I4 hok.out hb2);have HG2:Hid (R=goL (A2 most) (goL (A2 most) τ' (Ba (.mk k3 a3 nm3 n3 s3 ls3 args3) (d+1))).1 (A9 (.mk k2 a2 nm2 n2 s2 ls2 args2 arms2) (d+1)++Bh (arms.drop (i+1)) (d+1))):=Hz (by rw[HG.out,Eu HY.out,C1,if_pos hb2]);clear hb2;go_wp2_with fail;refine(cE _ f3 _ hs3 hok3.out).out.mono ?_;rintro e w4 ⟨rfl,hs4,f5⟩;clear m0 m1 m2 m3 m4 m5 m6 m7 m8 m9 m10 m11 m12 m13 m14 cE hDQ;have f6:=f4.trans f5
        cases hb3:(goL (A2 most) (goL (A2 most) τ' (Ba (.mk k3 a3 nm3 n3 s3 ls3 args3) (d+1))).1 (A9 (.mk k2 a2 nm2 n2 s2 ls2 args2 arms2) (d+1))).2 with
        | false =>
         go_wp2_with fail;go_ret;have e:R=((goL (A2 most) (goL (A2 most) τ' (Ba (.mk k3 a3 nm3 n3 s3 ls3 args3) (d+1))).1 (A9 (.mk k2 a2 nm2 n2 s2 ls2 args2 arms2) (d+1))).1,false):=by rw[HG2.out,C1,if_neg (by rw[hb3];decide)]
         rw[e]
         exact⟨rfl,hs4,f6⟩
        | true =>
         have hok4:Hid ((goL (A2 most) (goL (A2 most) τ' (Ba (.mk k3 a3 nm3 n3 s3 ls3 args3) (d+1))).1 (A9 (.mk k2 a2 nm2 n2 s2 ls2 args2 arms2) (d+1))).1.2=false):=Hz (I4 hok3.out hb3);have HG3:Hid (R=goL (A2 most) (goL (A2 most) (goL (A2 most) τ' (Ba (.mk k3 a3 nm3 n3 s3 ls3 args3) (d+1))).1 (A9 (.mk k2 a2 nm2 n2 s2 ls2 args2 arms2) (d+1))).1 (Bh (arms.drop (i+1)) (d+1))):=Hz (by rw[HG2.out,C1,if_pos hb3]);clear hb3 HG2 HG hok3 hok;go_wp2_with fail
         go_roundw
         case rel=>exact⟨i+1,_,by simp,by omega,hs4,hok4,f6,HG3⟩
         case measure=>simp[intOf];omega
     ·have ei:i=arms.length:=by omega
      subst ei;go_wp2_with fail;go_ret;have e:R=(τ',true):=by rw[HG.out,List.drop_length];simp[Bh,goL]
      rw[e];exact⟨rfl,hs,f⟩
theorem Kr(pm pa pf:Nat)(most:Int)(lo:Nat)(hl:lo≤pa)(hl2:lo≤pf):∀ N,WTD pm pa pf most lo N
 | 0=>fun _ _ _ _ _ _ _ _ _ _ _ _ _ _ _ h=>absurd h (Nat.not_lt_zero _)
 | N+1=>Op pm pa pf most lo hl hl2 N (Kr pm pa pf most lo hl hl2 N)
theorem Kf(k a:Int)(nm:LB)(n:Int)(s:LB)(ls:List LB)(args:List Ah)(arms:List (Av×Ah))(A5:Option Addr)(m5 cc5:Nat)(A6:Option Addr)(m6 cc6:Nat)(A7:Option Addr)(m7 cc7:Nat)(most:Int)(hm0:0≤most)(hm1:most≤1099511627776)(w:World)(hx:Ai w (fun b=>b<w.heap.size) (.mk k a nm n s ls args arms) [vI k,vI a,vS nm,vI n,vS s,.slice A5 m5 cc5,.slice A6 m6 cc6,.slice A7 m7 cc7])(hsz:szE (.mk k a nm n s ls args arms)≤1099511627775):
  Calls prog 17 #[.agg #[vI k,vI a,vS nm,vI n,vS s,.slice A5 m5 cc5,.slice A6 m6 cc6,.slice A7 m7 cc7],vI most] w fun e w'=>e = .returned (vI (min (szE (.mk k a nm n s ls args arms):Int) (most+1)))∧Fr [] w w':=by
 have hG:goL (Bx most) 0 (A9 (.mk k a nm n s ls args arms) 1)=(min (szE (.mk k a nm n s ls args arms):Int) (most+1),decide ((szE (.mk k a nm n s ls args arms):Int)≤most)):=by
  rw[Rj most _ 0 hm0,Fc];simp
 have HX:=Hz hx;have HSZ:=Hz hsz;have HG:=Hz hG;have cW:=fun lo N pn pm hl=>Hz (Kq pn pm most lo hl N k a nm n s ls args arms (.slice A5 m5 cc5) (.slice A6 m6 cc6) (.slice A7 m7 cc7) 1 1)
 generalize min (szE (.mk k a nm n s ls args arms):Int) (most+1)=R at *
 clear hx hsz hG;go_enter func17,ntmps17;go_wp2_with fail
 have f0:Fr [] w (((w.alloc (.cells #[vI k,vI a,vS nm,vI n,vS s,.slice A5 m5 cc5,.slice A6 m6 cc6,.slice A7 m7 cc7] 27)).alloc (.cells #[vI most] 3)).alloc (.cells #[vI 0] 3)):=((((Fr.refl [] w).alloc _).alloc _).alloc _)
 have s1:(w.alloc (.cells #[vI k,vI a,vS nm,vI n,vS s,.slice A5 m5 cc5,.slice A6 m6 cc6,.slice A7 m7 cc7] 27)).heap.size=w.heap.size+1:=by simp
 have s2:((w.alloc (.cells #[vI k,vI a,vS nm,vI n,vS s,.slice A5 m5 cc5,.slice A6 m6 cc6,.slice A7 m7 cc7] 27)).alloc (.cells #[vI most] 3)).heap.size=w.heap.size+2:=by simp
 have hpm:=Ad (Ab (w.alloc (.cells #[vI k,vI a,vS nm,vI n,vS s,.slice A5 m5 cc5,.slice A6 m6 cc6,.slice A7 m7 cc7] 27)) (.cells #[vI most] 3)) (.cells #[vI 0] 3);have hpn:=Ab ((w.alloc (.cells #[vI k,vI a,vS nm,vI n,vS s,.slice A5 m5 cc5,.slice A6 m6 cc6,.slice A7 m7 cc7] 27)).alloc (.cells #[vI most] 3)) (.cells #[vI 0] 3);rw[s1] at hpm;rw[s2] at hpn
 have hCS:CS (w.heap.size+2) (w.heap.size+1) most 0 (((w.alloc (.cells #[vI k,vI a,vS nm,vI n,vS s,.slice A5 m5 cc5,.slice A6 m6 cc6,.slice A7 m7 cc7] 27)).alloc (.cells #[vI most] 3)).alloc (.cells #[vI 0] 3)):=⟨hpn,hpm,by omega,hm1,by omega⟩
 have hxx:=HX.out.keep (w':=((w.alloc (.cells #[vI k,vI a,vS nm,vI n,vS s,.slice A5 m5 cc5,.slice A6 m6 cc6,.slice A7 m7 cc7] 27)).alloc (.cells #[vI most] 3)).alloc (.cells #[vI 0] 3)) (ok':=fun b=>b<w.heap.size) (Sh.of_fr f0 (fun b hb hlt=>⟨hb,fun x=>by cases x⟩));refine(cW w.heap.size (szE (.mk k a nm n s ls args arms)+1) (w.heap.size+2) (w.heap.size+1) (by omega)).out _ 0 (by omega) rfl (by have:=HSZ.out;omega) f0.size hxx hCS hm0 |>.mono ?_
 rintro e w2 ⟨rfl,hs2,f2⟩;rw[HG.out] at hs2;have c0:=Af hs2.n 0;have hl2:=Aa hs2.n;go_wp2_with fail;go_ret;exact⟨rfl,f0.step f2 (fun x hx => .inr (by simp at hx;omega))⟩
def D5(most:Int)(x:Ah):Option (Int×Nat):=(A9 x 1).find? (fun p=>decide (most<(p.2:Int)))
theorem Lr(k a:Int)(nm:LB)(n:Int)(s:LB)(ls:List LB)(args:List Ah)(arms:List (Av×Ah))(A5:Option Addr)(m5 cc5:Nat)(A6:Option Addr)(m6 cc6:Nat)(A7:Option Addr)(m7 cc7:Nat)(most:Int)(w:World)(hx:Ai w (fun b=>b<w.heap.size) (.mk k a nm n s ls args arms) [vI k,vI a,vS nm,vI n,vS s,.slice A5 m5 cc5,.slice A6 m6 cc6,.slice A7 m7 cc7])(hsz:szE (.mk k a nm n s ls args arms)≤1099511627775):
  Calls prog 16 #[.agg #[vI k,vI a,vS nm,vI n,vS s,.slice A5 m5 cc5,.slice A6 m6 cc6,.slice A7 m7 cc7],vI most] w fun e w'=>(e=match D5 most (.mk k a nm n s ls args arms)with
   | some p => .returned (.tuple #[vI p.1,.bool true])
   | none => .returned (.tuple #[vI 0,.bool false]))∧Fr [] w w':=by
 have hG0:=Oy most (A9 (.mk k a nm n s ls args arms) 1) 0;have HX:=Hz hx;have HSZ:=Hz hsz;have cW:=fun lo N pm pa pf hl hl2=>Hz (Kr pm pa pf most lo hl hl2 N k a nm n s ls args arms (.slice A5 m5 cc5) (.slice A6 m6 cc6) (.slice A7 m7 cc7) 1 1)
 have key:∃ (ra:Int) (rf:Bool),(goL (A2 most) (0,false) (A9 (.mk k a nm n s ls args arms) 1)).1=(ra,rf)∧(match D5 most (.mk k a nm n s ls args arms)with
   | some p=>Ending.returned (.tuple #[vI p.1,.bool true])
   | none => .returned (.tuple #[vI 0,.bool false]))= .returned (.tuple #[vI ra,.bool rf]):=by
  unfold D5;rw[hG0]
  cases (A9 (.mk k a nm n s ls args arms) 1).find? (fun p=>decide (most<(p.2:Int)))with
  | none=>exact⟨_,_,rfl,rfl⟩
  | some p=>exact⟨_,_,rfl,rfl⟩
 obtain⟨ra,rf,hG,hM⟩:=key;rw[hM];have HG:=Hz hG;clear hx hsz hG hM hG0;go_enter func16,ntmps16;go_wp2_with fail;have f0:Fr [] w ((((w.alloc (.cells #[vI k,vI a,vS nm,vI n,vS s,.slice A5 m5 cc5,.slice A6 m6 cc6,.slice A7 m7 cc7] 27)).alloc (.cells #[vI most] 3)).alloc (.cells #[vI 0] 3)).alloc (.cells #[.bool false] 4)):=((((Fr.refl [] w).alloc _).alloc _).alloc _).alloc _;have s1:(w.alloc (.cells #[vI k,vI a,vS nm,vI n,vS s,.slice A5 m5 cc5,.slice A6 m6 cc6,.slice A7 m7 cc7] 27)).heap.size=w.heap.size+1:=by simp
 have s2:((w.alloc (.cells #[vI k,vI a,vS nm,vI n,vS s,.slice A5 m5 cc5,.slice A6 m6 cc6,.slice A7 m7 cc7] 27)).alloc (.cells #[vI most] 3)).heap.size=w.heap.size+2:=by simp
 have s3:(((w.alloc (.cells #[vI k,vI a,vS nm,vI n,vS s,.slice A5 m5 cc5,.slice A6 m6 cc6,.slice A7 m7 cc7] 27)).alloc (.cells #[vI most] 3)).alloc (.cells #[vI 0] 3)).heap.size=w.heap.size+3:=by simp
 have hpm:=Ad (Ad (Ab (w.alloc (.cells #[vI k,vI a,vS nm,vI n,vS s,.slice A5 m5 cc5,.slice A6 m6 cc6,.slice A7 m7 cc7] 27)) (.cells #[vI most] 3)) (.cells #[vI 0] 3)) (.cells #[.bool false] 4);have hpa:=Ad (Ab ((w.alloc (.cells #[vI k,vI a,vS nm,vI n,vS s,.slice A5 m5 cc5,.slice A6 m6 cc6,.slice A7 m7 cc7] 27)).alloc (.cells #[vI most] 3)) (.cells #[vI 0] 3)) (.cells #[.bool false] 4);have hpf:=Ab (((w.alloc (.cells #[vI k,vI a,vS nm,vI n,vS s,.slice A5 m5 cc5,.slice A6 m6 cc6,.slice A7 m7 cc7] 27)).alloc (.cells #[vI most] 3)).alloc (.cells #[vI 0] 3)) (.cells #[.bool false] 4);rw[s1] at hpm;rw[s2] at hpa;rw[s3] at hpf
 have hDS:DS (w.heap.size+1) (w.heap.size+2) (w.heap.size+3) most (0,false) ((((w.alloc (.cells #[vI k,vI a,vS nm,vI n,vS s,.slice A5 m5 cc5,.slice A6 m6 cc6,.slice A7 m7 cc7] 27)).alloc (.cells #[vI most] 3)).alloc (.cells #[vI 0] 3)).alloc (.cells #[.bool false] 4)):=⟨hpm,hpa,hpf,by omega,by omega,by omega⟩
 have hxx:=HX.out.keep (w':=(((w.alloc (.cells #[vI k,vI a,vS nm,vI n,vS s,.slice A5 m5 cc5,.slice A6 m6 cc6,.slice A7 m7 cc7] 27)).alloc (.cells #[vI most] 3)).alloc (.cells #[vI 0] 3)).alloc (.cells #[.bool false] 4)) (ok':=fun b=>b<w.heap.size) (Sh.of_fr f0 (fun b hb hlt=>⟨hb,fun x=>by cases x⟩));refine(cW w.heap.size (szE (.mk k a nm n s ls args arms)+1) (w.heap.size+1) (w.heap.size+2) (w.heap.size+3) (by omega) (by omega)).out _ (0,false) (by omega) rfl (by have:=HSZ.out;omega) f0.size hxx hDS rfl |>.mono ?_
 rintro e w2 ⟨rfl,hs2,f2⟩;rw[HG.out] at hs2
 generalize (goL (A2 most) (0,false) (A9 (.mk k a nm n s ls args arms) 1)).2=RB at *
 have c0:w2.cell? ⟨w.heap.size+2,0,none⟩=some (vI ra):=Af hs2.a 0;have c1:w2.cell? ⟨w.heap.size+3,0,none⟩=some (.bool rf):=Af hs2.f 0;have hl2:=Aa hs2.a;have hl3:=Aa hs2.f;go_wp2_with fail;go_quiet (fail);go_wp2_with fail;go_ret2;exact⟨rfl,(f0.step f2 (fun x hx => .inr (by simp at hx;omega))).drewN _⟩
theorem B3(t:Tok)(st:St)(s:LB):st.i≤(A4 t st s).i:=by unfold A4;split <;> simp
theorem E0(t:Tok)(st:St):st.i≤(Cd t st).i:=by unfold Cd;split <;> simp
theorem Rt(ts:List Tok)(hE:Be ts)(N:Nat)(ih:Dp ts N)(P g c:Nat)(st:St)(w:World)(h:PSt P g c ts st w)(t:Tok)(ht:ts[st.i]?=some t)(hm:16 *(ts.length-(A4 t st [102,117,110]).i)+13<N):Calls prog 53 #[.pointer (some ⟨P,0,none⟩)] w (Fl P g c ts st (body .fn) w):=by
 have H:=Hz h;have hP:=Aa h.blk;have hgl:=h.lt;have hin:=h.inb;have HN:=Hz hm;have HE:=Hz hE;have IH:=Hz ih;clear h hm hE ih;go_enter func53,ntmps53;go_wp2_with fail;have f0:Fr [] w (w.alloc (.cells #[vI 0,vI 0,vE,vI 0,vE,vZ,vZ,vZ] 27)):=(Fr.refl [] w).alloc _;have g0:=Ab w (.cells #[vI 0,vI 0,vE,vI 0,vE,vZ,vZ,vZ] 27)
 generalize w.alloc (.cells #[vI 0,vI 0,vE,vI 0,vE,vZ,vZ,vZ] 27)=w1 at *
 generalize hB:w.heap.size=B at *
 have hB1:=Aa g0;have nP:¬ P=B:=by omega
 have nB:¬ B=P:=by omega
 have ng:¬ g=B:=by omega
 have r1:=Ol;refine(Bd P g c ts st t ht w1 (H.out.fr f0) HE.out).mono ?_;rintro e x3 ⟨rfl,f3⟩;go_wp2_with fail;have hTB:=Aa (f3.keep g0 nE);have q4:=Ab x3 (.cells #[vI 7,vI t.at',vE,vI 0,vE,vZ,vZ,vZ] 27);have fb4:Fr [] x3 (x3.alloc (.cells #[vI 7,vI t.at',vE,vI 0,vE,vZ,vZ,vZ] 27)):=(Fr.refl [] x3).alloc _
 generalize x3.alloc (.cells #[vI 7,vI t.at',vE,vI 0,vE,vZ,vZ,vZ] 27)=x4 at *
 have hT4:=Aa q4
 generalize x3.heap.size=T at *
 have f4:=(f0.trans f3).trans fb4;have g0:=(f3.trans fb4).keep g0 nE;have h4:=H.out.fr f4;clear r1 f0 f3 fb4;have nT1:¬ B=T:=by omega
 have nT2:¬ T=B:=by omega
 have nT3:¬ T=P:=by omega
 refine(Bc [102,117,110] P g c ts st t ht x4 h4 HE.out).mono ?_;rintro e x5 ⟨rfl,h5,f5⟩;go_wp2_with fail;have g0:=f5.keep g0 (by simpa using nB);have q4:=f5.keep q4 (by simpa using nT3);have F5:=(f4.mono (L':=[P]) (fun x hx=>by cases hx)).trans f5;obtain⟨u,hu⟩:=At h5.inb;refine(Fb P g c ts (A4 t st [102,117,110]) u hu x5 h5 HE.out).mono ?_;rintro e x6 ⟨rfl,h6,f6⟩;have g0:=f6.keep g0 (by simpa using nB);have q4:=f6.keep q4 (by simpa using nT3);have F6:=F5.trans f6;obtain⟨⟨m0,m1,m2,m3,m4,m5,m6,m7⟩,j0,j1,j2,j3,j4,j5,j6,j7⟩:=Ac q4;have q7:(x6.setCell ⟨T,2,none⟩ (.string ⟨(Aq u (A4 t st [102,117,110])).toArray⟩)).heap[T]?=some (.cells #[vI 7,vI t.at',.string ⟨(Aq u (A4 t st [102,117,110])).toArray⟩,vI 0,vE,vZ,vZ,vZ] 27 (0,0)):=Bi q4 2 _;have fs:=(Fr.refl [T] x6).setCell (p:=⟨T,2,none⟩) (.inl (by simp)) (.string ⟨(Aq u (A4 t st [102,117,110])).toArray⟩);have g0:=fs.keep g0 (by simpa using nT1);have h7:=h6.frL fs (by simp;omega) (by simp;omega);have F7:=F6.step fs (fun x hx => .inr (by simp at hx;omega));have HQ:=Hz q7;clear q4 q7 fs;go_wp2_with fail;clear m0 m1 m2 m3 m4 m5 m6 m7 j0 j1 j2 j3 j4 j5 j6 j7;have q4:=HQ.out
 generalize x6.setCell ⟨T,2,none⟩ (.string ⟨(Aq u (A4 t st [102,117,110])).toArray⟩)=x7 at *
 obtain⟨v,hv⟩:=At h7.inb;refine(Bc [45,62] P g c ts (Cd u (A4 t st [102,117,110])) v hv x7 h7 HE.out).mono ?_;rintro e x8 ⟨rfl,h8,f8⟩;go_wp2_with fail;have g0:=f8.keep g0 (by simpa using nB);have q4:=f8.keep q4 (by simpa using nT3);have hT8:=Aa q4;have F8:=F7.trans f8;have hle1:=E0 u (A4 t st [102,117,110]);have hle2:=B3 v (Cd u (A4 t st [102,117,110])) [45,62];refine(IH.out.seq P g c (A4 v (Cd u (A4 t st [102,117,110])) [45,62]) x8 h8 (by have:=HN.out;have:=h8.inb;omega)).mono ?_;rintro e x9 ⟨k2,a2,nm2,n2,s2,ls2,args2,arms2,A52,n52,c52,A62,n62,c62,A72,n72,c72,st2,rfl,hx2,hr2,hst2,f9⟩;have g0:=f9.keep g0 (by simpa using nB);have q4:=f9.keep q4 (by simpa using nT3);have F9:=F8.trans f9;have hx2:=hx2.keep (ok':=fun b=>B<b∧¬ b=T∧¬ b=P) (Sh.of_fr (Fr.refl [] x9) (fun b hb hlt=>⟨by have:x8.heap.size≤b:=hb;exact⟨by omega,by omega,by omega⟩,fun x=>by cases x⟩));obtain⟨⟨m0,m1,m2,m3,m4,m5,m6,m7⟩,j0,j1,j2,j3,j4,j5,j6,j7⟩:=Ac q4;obtain⟨⟨l0,l1,l2,l3,l4,l5,l6,l7⟩,y0,y1,y2,y3,y4,y5,y6,y7⟩:=Ac g0;have hT9:=Aa q4;have hB9:=Aa g0;have fs:=(Fr.refl [T] x9).setCell (p:=⟨T,6,none⟩) (.inl (by simp)) (.slice (some ⟨x9.heap.size,0,none⟩) 1 1);have g0:=fs.keep g0 (by simpa using nT1);have h10:=hst2.frL fs (by simp;omega) (by simp;omega);have F10:=F9.step fs (fun x hx => .inr (by simp at hx;omega));have hx2:=hx2.keep (ok':=fun b=>B<b∧¬ b=P) (Sh.of_fr fs (fun b hb hlt=>⟨⟨hb.1,hb.2.2⟩,by simp;exact hb.2.1⟩));have HG:=Hz (An g0 (vI 7) (vI t.at') (.string ⟨(Aq u (A4 t st [102,117,110])).toArray⟩) (vI 0) (vE) (vZ) (.slice (some ⟨x9.heap.size,0,none⟩) 1 1) (vZ));have HF:=Hz ((F10).step (Ag (x9.setCell ⟨T,6,none⟩ (.slice (some ⟨x9.heap.size,0,none⟩) 1 1)) B (vI 7) (vI t.at') (.string ⟨(Aq u (A4 t st [102,117,110])).toArray⟩) (vI 0) (vE) (vZ) (.slice (some ⟨x9.heap.size,0,none⟩) 1 1) (vZ)) (fun x hx => .inr (by simp at hx;omega)));have HP:=Hz ((h10).frL (Ag (x9.setCell ⟨T,6,none⟩ (.slice (some ⟨x9.heap.size,0,none⟩) 1 1)) B (vI 7) (vI t.at') (.string ⟨(Aq u (A4 t st [102,117,110])).toArray⟩) (vI 0) (vE) (vZ) (.slice (some ⟨x9.heap.size,0,none⟩) 1 1) (vZ)) (by simpa using nP) (by simpa using ng));have HS:Hid ((st8 (x9.setCell ⟨T,6,none⟩ (.slice (some ⟨x9.heap.size,0,none⟩) 1 1)) B (vI 7) (vI t.at') (.string ⟨(Aq u (A4 t st [102,117,110])).toArray⟩) (vI 0) (vE) (vZ) (.slice (some ⟨x9.heap.size,0,none⟩) 1 1) (vZ)).heap.size=x9.heap.size):=Hz ((C5 _ _ _ _ _ _ _ _ _ _).trans (by simp[World.setCell]));have HX2:Hid (Ai (st8 (x9.setCell ⟨T,6,none⟩ (.slice (some ⟨x9.heap.size,0,none⟩) 1 1)) B (vI 7) (vI t.at') (.string ⟨(Aq u (A4 t st [102,117,110])).toArray⟩) (vI 0) (vE) (vZ) (.slice (some ⟨x9.heap.size,0,none⟩) 1 1) (vZ)) (fun b=>B≤b) (.mk k2 a2 nm2 n2 s2 ls2 args2 arms2) [vI k2,vI a2,vS nm2,vI n2,vS s2,.slice A52 n52 c52,.slice A62 n62 c62,.slice A72 n72 c72]):=Hz ((hx2).keep (Sh.of_fr (Ag (x9.setCell ⟨T,6,none⟩ (.slice (some ⟨x9.heap.size,0,none⟩) 1 1)) B (vI 7) (vI t.at') (.string ⟨(Aq u (A4 t st [102,117,110])).toArray⟩) (vI 0) (vE) (vZ) (.slice (some ⟨x9.heap.size,0,none⟩) 1 1) (vZ)) (fun b hb hlt=>⟨by omega,by simp;omega⟩)));unfold st8 at HG HF HP HS HX2;go_wp2_with fail;generalize ((((((((x9.setCell ⟨T,6,none⟩ (.slice (some ⟨x9.heap.size,0,none⟩) 1 1)).setCell ⟨B,0,none⟩ (vI 7)).setCell ⟨B,1,none⟩ (vI t.at')).setCell ⟨B,2,none⟩ (.string ⟨(Aq u (A4 t st [102,117,110])).toArray⟩)).setCell ⟨B,3,none⟩ (vI 0)).setCell ⟨B,4,none⟩ (vE)).setCell ⟨B,5,none⟩ (vZ)).setCell ⟨B,6,none⟩ (.slice (some ⟨x9.heap.size,0,none⟩) 1 1)).setCell ⟨B,7,none⟩ (vZ)=Z at HG HF HP HS HX2 ⊢;obtain⟨⟨d0,d1,d2,d3,d4,d5,d6,d7⟩,_⟩:=Ac (Ad HG.out (.cells #[vI k2,vI a2,vS nm2,vI n2,vS s2,.slice A52 n52 c52,.slice A62 n62 c62,.slice A72 n72 c72] 27));have hBZ:B≤Z.heap.size:=by have:=Aa HG.out;omega
 have row:=Aj.lit Al (T:=27) (size:=8) HX2.out rfl (ok:=fun b=>B≤b) hBZ;rw[HS.out] at row;have hxx:=Ai.of_rows (k:=7) (a:=t.at') (nm:=Aq u (A4 t st [102,117,110])) (n:=0) (s:=[]) (c5:=fun _=>[]) (c7:=fun _=>[]) Aj.nil_ row Aj.nil_;refine bodyPost_ret (v:=.agg #[vI 7,vI t.at',.string ⟨(Aq u (A4 t st [102,117,110])).toArray⟩,vI 0,vE,vZ,.slice (some ⟨x9.heap.size,0,none⟩) 1 1,vZ]) ?_ rfl ?_
 ·simp[results,Tryz.f53,go_sem,d0,d1,d2,d3,d4,d5,d6,d7]
 ·exact⟨_,_,_,_,_,_,_,_,_,_,_,_,_,_,_,_,_,_,rfl,by rw[hB];exact hxx,.look ht (.must_ ht (.name_ hu (.must_ hv (.callE hr2 .retE)))),HP.out.fr ((Fr.refl [] Z).alloc _),HF.out.alloc _⟩
theorem fn_step(ts:List Tok)(hE:Be ts)(N:Nat)(ih:Dp ts N):GE ts (N+1) 14 .fn 53:=fun P g c st w h hm=>by
 obtain⟨t,ht⟩:=At h.inb;exact Rt ts hE N ih P g c st w h t ht (by have:=B3 t st [102,117,110];omega)
def GF(ts:List Tok)(N:Nat):Prop:=∀ (P g c:Nat)(st:St)(w:World)(t:Tok),PSt P g c ts st w→ts[st.i]?=some t→isB t st.ok [[102,117,110]]=true→16 *(ts.length-st.i)<N→Calls prog 53 #[.pointer (some ⟨P,0,none⟩)] w (Fl P g c ts st (body .fn) w)
theorem Rr(ts:List Tok)(hE:Be ts)(N:Nat)(ih:Dp ts N):GF ts (N+1):=fun P g c st w t h ht hb hm=>by
 refine Rt ts hE N ih P g c st w h t ht ?_;have:=h.inb;unfold A4;rw[if_pos hb];simp only;omega
end
end Go.Proofs.YtpjkfeehgookkaaGreatDoor
