/- Whatever the backend (but that of field elements), the pattern's bytes and the calls are: the transcript answers what the document says; the law TranscriptBytes returns true and its arguments read as before, where the table is laid as the program's text lays it. -/
import Derived.Test.YtafkceblllhheaaGreatDoorRows
import Derived.Test.YtafkceblllhheaaGreatDoorTie
import Derived.Test.YtafkceblllhheaaGreatDoorCards
import Derived.Test.YtafkceblllhheaaGreatDoorCG
import Derived.Test.YtafkceblllhheaaGreatDoorC7
import Derived.Test.YtafkceblllhheaaGreatDoorL0
import Derived.Test.YtafkceblllhheaaGreatDoorL2
set_option linter.unusedSimpArgs false
set_option linter.unusedVariables false
set_option maxRecDepth 100000
namespace Go.Proofs.YtafkceblllhheaaGreatDoor
open Go.ChangeShapes Go.WideShapes Go.RowKit Go.Av
theorem own:ownKnob Tryz.prog.godebug=none:=by kernel_rfl
theorem zqz:laidOutB Tryz.prog=true:=by kernel_rfl
theorem gK:Tryz.prog.globalNamed "avouch/keccak.constants"=some 0:=by kernel_rfl
abbrev Mg:List (String × DataW Unit):=[("avouch/keccak.constants",Rows.laid_avouch_keccak_constants)]
theorem zaA (os : Os)(args : Array Value) : laidMetH Tryz.prog Mg ((World.laidAll Tryz.prog os Mg).forCall (fun _ _ => 0) ⟨#[], args, []⟩).memory := by
 rw [Go.MakeChecks.laidMetH_plain _ _ _ (by kernel_rfl)];exact laidMet_laidAll args (by kernel_rfl) (by kernel_rfl)
def rcI:List Int:=[1,32898,9223372036854808714,9223372039002292224,32907,2147483649,9223372039002292353,9223372036854808585,138,136,2147516425,2147483658,2147516555,9223372036854775947,9223372036854808713,9223372036854808579,9223372036854808578,9223372036854775936,32778,9223372039002259466,9223372039002292353,9223372036854808704,2147483649,9223372039002292232]
theorem zdg {W:World}(h:laidMetH Tryz.prog Mg W):∀ g cs,Av.ah.glob g=some cs->BJ (JM W) g cs:=by
 intro g cs hg;rw [Go.MakeChecks.laidMetH_plain _ _ _ (by kernel_rfl)] at h;have h1:BJ (JM W) 0 (rcI.map fun z=>.int .u64 z):=zc8 (t:=348) (e:=59) (n:=24) gK (by kernel_rfl) (by kernel_rfl) (by kernel_rfl) (by kernel_rfl) (by kernel_rfl) h (List.mem_singleton.2 rfl)
 match g,hg with
 | 0,hg=>obtain rfl:=sj hg;exact h1
 | g+1,hg=>simp [Av.ah,zjK] at hg
theorem TK:∀ {es:List (List J)},qh [.int .i64,.int .i64,.int .i64,.sl [.int .u8]] es->∃ l:List d5,es=l.map d5.cells/\∀ c∈l,cw c.b
 | [],_=>⟨[],rfl,by simp⟩
 | e :: es, h => by
  cases h with
  | cons _ _ _ h1 h2=>
   obtain ⟨l,rfl,hl⟩:=TK h2
   cases h1 with
   | cons _ _ _ _ a1 h1=>
    cases h1 with
    | cons _ _ _ _ a2 h1=>
     cases h1 with
     | cons _ _ _ _ a3 h1=>
      cases h1 with
      | cons _ _ _ _ a4 h1=>
       cases h1
       obtain ⟨x1,rfl,w1⟩:=HE a1;obtain ⟨x2,rfl,w2⟩:=HE a2;obtain ⟨x3,rfl,w3⟩:=HE a3;obtain ⟨es2,rfl,_,q2⟩:=TC a4;obtain ⟨x4,rfl,w4⟩:=Gj q2;refine ⟨⟨x1,x2,x3,x4⟩ :: l,rfl,fun a ha=>?_⟩;rcases List.mem_cons.1 ha with rfl | ha
       ·exact JF fun x hx=>wf_u8 (w4 x hx)
       ·exact hl a ha
theorem lifted (os:Os)(started:os.Started)(H:Type)(enc:TypeId × Value->H):
  ReturnsInHanded {} Tryz.checked os 7 .any (fun w args => (Rows.transcriptBytesSpec.pre enc Tryz.prog Tryz.f7 [] false w args /\ laidMetH Tryz.prog Mg w) /\ sizedMet enc Tryz.prog Tryz.f7 (OpenSpec.ofChange Rows.transcriptBytesSpec) false w args)
   (Rows.transcriptBytesSpec.post enc Tryz.prog Tryz.f7 false true false false):=by
 refine returnsInHanded_of_change_and (C := Tryz.checked) (X := fun w _ => laidMetH Tryz.prog Mg w) (fun _ _ _ hh h => h.of_heap hh) own started (by kernel_rfl) Tryz.func7
  (ChangeSpec.witness_shaped (enc:=enc) (C:=Tryz.checked) (os:=os) (X:=fun w _=>laidMetH Tryz.prog Mg w) false (World.laidAll Tryz.prog os Mg) #[.int .i64 0,.slice none 0 0,.slice none 0 0] 8 (World.laidAll_os _ _ _) (World.shaped_of_RefB (by kernel_rfl) (by kernel_rfl)) (by kernel_rfl) (by kernel_rfl) (by kernel_rfl) (zaA os _)) ?_
 intro W base args ds gs before hval0 hW _ _ hL _;have hval:∀ (j:Nat) t v,Tryz.f7.params[j]?=some t->args[j]?=some v->Value.okWide Tryz.prog W .any base t v:=hval0;have hW':=hW;obtain ⟨p,q,hA0,hV,rfl,hfz,hnd⟩:=hW;have hA:DataW.TrodAll enc Tryz.prog W 0 (fun _=>true) true Tryz.f7.params.toList args.toList ds p:=hA0;rw [Tryz.params7] at hA hval;obtain ⟨v0,vs0,d0,ds0,p0,q0,hargs,rfl,rfl,h0,r0⟩:=trodAll_cons hA;obtain ⟨v1,vs1,d1,ds1,p1,q1,rfl,rfl,rfl,h1,r1⟩:=trodAll_cons r0;obtain ⟨v2,vs2,d2,ds2,p2,q2,rfl,rfl,rfl,h2,r2⟩:=trodAll_cons r1;obtain ⟨rfl,rfl,rfl⟩:=trodAll_nil r2;obtain rfl:args=#[v0,v1,v2]:=by cases args;simp_all
 obtain ⟨b,_,e0⟩:=zhf (d:=6) (k:=.i64) (by kernel_rfl) (by kernel_rfl) (hval 0 _ v0 rfl rfl) h0;obtain ⟨es0,hs0,hel0,e1⟩:=Yw (d:=6) (e:=5) (ts:=[.int .u8]) (by kernel_rfl) (by kernel_rfl) (hval 1 _ v1 rfl rfl) h1;obtain ⟨m,rfl,hm⟩:=Gj hel0;obtain ⟨es1,hs1,hel1,e2⟩:=Yw (d:=6) (e:=40) (ts:=[.int .i64,.int .i64,.int .i64,.sl [.int .u8]]) (by kernel_rfl) (by kernel_rfl) (hval 2 _ v2 rfl rfl) h2;obtain ⟨l,rfl,hl⟩:=TK hel1;have hlen:l.length < 9223372036854775808:=by unfold maxLen at hs1;simp at hs1;omega
 have hcall:=zcY zkH (W:=W) (f:=Av.dR) (args:=[.int .i64 b,.vsl false (eI .u8 m),.vsl false (l.map d5.cells)]) (cargs:=#[v0,v1,v2]) rfl (zb2 ⟨0,0,0,0⟩ ⟨[],[]⟩ b m (JF fun x hx=>wf_u8 (hm x hx)) l hlen hl) (zdg hL) (.cons _ _ _ _ e0 (.cons _ _ _ _ e1 (.cons _ _ _ _ e2 .nil)));refine hcall.mono fun e W' ⟨he,hb⟩=>?_;exact ⟨_,he,zas (t:=4) zqz (of_decide_eq_true (by kernel_rfl)) rfl hW' hb (by kernel_rfl) (by kernel_rfl) ⟨rfl,rfl,rfl⟩⟩
theorem Cl:Rows.TranscriptBytesSaid:=
 OpenClaim.holds_of_wide 7 Tryz.f7 rfl rfl rfl rfl rfl rfl rfl ⟨rfl, rfl, rfl, rfl, rfl⟩ rfl rfl rfl rfl rfl (by kernel_rfl) Tryz.func7 zqw
  (of_decide_eq_true (by kernel_rfl)) (by unfold Func.isWrapper;first | (rw [if_pos (by decide +kernel)];kernel_rfl) | (rw [if_neg (by decide +kernel)];exact ⟨rfl,rfl⟩))
  (fun os started H enc _=>lifted os started H enc)
theorem transcriptBytes_card:Rows.TranscriptBytesCardSaid:=
 Claim7.holds_tied_plain_at .later [] [.data] true (true,"5cdae95c36ba2da79ccc0b150a168b5750cc7a7ac611029f93d4d6c14ff46b21") false
  Cl (fun _ h=>by cases h) (by kernel_rfl) (fun _ h=>by cases h) transcriptBytes_row_tie rfl ⟨rfl,rfl⟩ (by kernel_rfl) rfl
  (fun f fn hf hfn => by
   obtain rfl:f=7:=sj ((show Tryz.prog.funcNamed "avouch/avouchlaw18.TranscriptBytes"=some 7 by kernel_rfl).symm.trans hf) |>.symm;obtain rfl:fn=Tryz.f7:=(sj (Tryz.func7.symm.trans hfn)).symm;exact ⟨by kernel_rfl, fun j t ht => by
    rw [Tryz.params7] at ht;have h3:t=3\/t=25\/t=63:=by
     rcases j with _ | _ | _ | j
     ·left;simpa using ht.symm
     ·right;left;simpa using ht.symm
     ·right;right;simpa using ht.symm
     ·simp at ht
    rcases h3 with rfl | rfl | rfl
    ·exact (show Tryz.prog.wantsStandIn 3=false by kernel_rfl)
    ·exact (show Tryz.prog.wantsStandIn 25=false by kernel_rfl)
    ·exact (show Tryz.prog.wantsStandIn 63=false by kernel_rfl)⟩)
  (by kernel_rfl)
#print axioms transcriptBytes_card
end Go.Proofs.YtafkceblllhheaaGreatDoor
