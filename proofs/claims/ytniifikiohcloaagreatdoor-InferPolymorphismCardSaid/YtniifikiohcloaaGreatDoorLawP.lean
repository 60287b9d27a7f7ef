/- InferPolymorphism returns true at each of the 256 numbers. -/
import Derived.Test.YtniifikiohcloaaGreatDoorTop
import Derived.Test.YtniifikiohcloaaGreatDoorRunP0
import Derived.Test.YtniifikiohcloaaGreatDoorRunP1
import Derived.Test.YtniifikiohcloaaGreatDoorRunP2
import Derived.Test.YtniifikiohcloaaGreatDoorRunP3
import Derived.Test.YtniifikiohcloaaGreatDoorRunP4
import Derived.Test.YtniifikiohcloaaGreatDoorRunP5
import Derived.Test.YtniifikiohcloaaGreatDoorRunP6
import Derived.Test.YtniifikiohcloaaGreatDoorRunP7
import Derived.Test.YtniifikiohcloaaGreatDoorRunW
import Derived.Test.YtniifikiohcloaaGreatDoorFactD
set_option linter.all false
namespace Go.Proofs.YtniifikiohcloaaGreatDoor
open Go Go.Ev
set_option maxRecDepth 1000000
noncomputable section
def tbl4 : Sp.Tbl := [(5, .cons (.str 37 5053194376419092495764727952469697754635680803960606760552605613180129077130910093877362) .nil, Sp.code3 0 0 0),
  (5, .cons (.str 40 84778559553633005847789381458076152229739756818791566367302974027510023279777208012958605320306) .nil, Sp.code3 0 0 0),
  (5, .cons (.str 39 331166171974661227023073588980940562225643551038431082222166538942583332994158974338781225074) .nil, Sp.code3 0 0 0),
  (5, .cons (.str 42 5556045714781346928058705631393050988018566470663432048585972342046700712954263718342909788229017714) .nil, Sp.code3 0 0 0),
  (5, .cons (.str 40 84778533543168421325516333772305568278600685189035745722472773229129571291264783179139648397426) .nil, Sp.code3 0 0 0),
  (5, .cons (.str 43 1422348205800164523837625575320946282890941118299206001857567942323355096723949507069181578096391561330) .nil, Sp.code3 0 0 0),
  (5, .cons (.str 42 5556046399112037932591142678636192179336656957645816502545657633241626169741788209664447368679727218) .nil, Sp.code3 0 0 0),
  (5, .cons (.str 45 93214979062761050182977365058297689732733385404272425647483287543153001378081674622458518429890066524217458) .nil, Sp.code3 0 0 0),
  (5, .cons (.str 39 331166146653001645802527171696146133938450585844712613788419922826950629350324023331154370674) .nil, Sp.code3 0 0 0),
  (5, .cons (.str 42 5556047678906892671240724903326439315620246593522932769797856834711258247241169255809954577079148658) .nil, Sp.code3 0 0 0),
  (5, .cons (.str 41 21703306246531398174184150817415523778041666407463295754801035140502502888795354014965785174024306) .nil, Sp.code3 0 0 0),
  (5, .cons (.str 44 364121011963910352277255332258975079511387864243289329344806633697501422285532204735472408580795712479346) .nil, Sp.code3 0 0 0),
  (5, .cons (.str 42 5556045974285085659982060474408574417674414804469918023435265988384189116926136390928007906151178354) .nil, Sp.code3 0 0 0),
  (5, .cons (.str 45 93215012015319582234222629697255559902297412096897064459008964435393721658854287677093444402037026140790898) .nil, Sp.code3 0 0 0),
  (5, .cons (.str 44 364121056812206517950293119609125797421702118416576151582223985942445252613730613916129722665703380426866) .nil, Sp.code3 0 0 0),
  (5, .cons (.str 47 6108936867857108184791604596460590416348721902549365727533386003819842388636000581590223271381775311639892795506) .nil, Sp.code3 0 0 0),
  (5, .cons (.str 34 301229558629782624446683459274394871170155012039771935921208211102158580103323762) .nil, Sp.code3 0 0 0),
  (5, .cons (.str 37 5053793370716527123388888879875008437828698726845312178164320935304807196009719092027506) .nil, Sp.code3 1 20 6),
  (5, .cons (.str 36 19741380354361434075737847187007990731213462620158356300522419743206342395496010424434) .nil, Sp.code3 1 20 6),
  (5, .cons (.str 39 331205402343278321558414221631391714115542682237645471960369437859814733004108220589131243634) .nil, Sp.code3 1 20 6),
  (5, .cons (.str 37 5053793370716527123388888879873726022913863395029907328224747558106196632842642944499826) .nil, Sp.code3 1 23 6),
  (5, .cons (.str 40 84788582999879250318954040737661069563274649539208805556546264361409195637493463502147217596530) .nil, Sp.code3 0 0 0),
  (5, .cons (.str 39 331205402343278321558414221631425454223566204486327253911794085352856810623262189906852388978) .nil, Sp.code3 1 23 6),
  (5, .cons (.str 42 5556704575480086548902972013781731168326708537120341414505617551741225974011724188267698004667736178) .nil, Sp.code3 1 23 6),
  (5, .cons (.str 36 19741380354361434075737847187006742277007278873473893766884159553117278121299160146034) .nil, Sp.code3 1 22 6),
  (5, .cons (.str 39 331205402343278321558414221631488552981541599762534383343577111167994074723906366062848712818) .nil, Sp.code3 1 22 6),
  (5, .cons (.str 38 1293771102903430943587555553247755680560805486274702473911211652149001181444642186909786226) .nil, Sp.code3 0 0 0),
  (5, .cons (.str 41 21705877247969088081652234428834887376276205223126333650399206879755170200387562557944952916877426) .nil, Sp.code3 1 22 6),
  (5, .cons (.str 39 331205402343278321558414221631404508637682951112639242788653868558269292964871141400537538674) .nil, Sp.code3 1 25 6),
  (5, .cons (.str 42 5556704575480086548902972013783355854898767432201587936913052107306125635520362058972413442203132018) .nil, Sp.code3 1 25 6),
  (5, .cons (.str 41 21705877247969088081652234428837098567995634777215598871599463294497414162596545773428867961004146) .nil, Sp.code3 1 25 6),
  (5, .cons (.str 44 364164191058662952068905173895199533847459170688718694940696111107039102245422577992746752127294555103346) .nil, Sp.code3 0 0 0), (6, .nil, .bool true)]
/-- the law at the numbers below n, one after the other -/
def law4N (n : Nat) : Sp.R := @Nat.rec (fun _ => Sp.R) .good (fun n ih => Sp.runL cfB 9 sls tbl4 4 (.cons (.int .u8 n) .nil) fun v => @Bool.rec (fun _ => Sp.R) .bad ih (V.eqb v (.bool true))) n
theorem law4_runs : law4N 256 = Sp.R.good := by kernel_rfl
end
end Go.Proofs.YtniifikiohcloaaGreatDoor
namespace Go.Proofs.YtniifikiohcloaaGreatDoor
open Go Go.Ev
theorem tbl4_ok : ∀ p ∈ tbl4, Sp.plainL p.2.1 = true ∧ Sp.Does cfB.P sls p.1 p.2.1 fun x => Rel (fun _ => none) p.2.2 x := by
  intro p hp
  unfold tbl4 at hp
  simp only [List.mem_cons, List.not_mem_nil, or_false] at hp
  rcases hp with rfl | rfl | rfl | rfl | rfl | rfl | rfl | rfl | rfl | rfl | rfl | rfl | rfl | rfl | rfl | rfl | rfl | rfl | rfl | rfl | rfl | rfl | rfl | rfl | rfl | rfl | rfl | rfl | rfl | rfl | rfl | rfl | rfl
  · exact ⟨rfl, inf_does run_e00⟩
  · exact ⟨rfl, inf_does run_e01⟩
  · exact ⟨rfl, inf_does run_e02⟩
  · exact ⟨rfl, inf_does run_e03⟩
  · exact ⟨rfl, inf_does run_e10⟩
  · exact ⟨rfl, inf_does run_e11⟩
  · exact ⟨rfl, inf_does run_e12⟩
  · exact ⟨rfl, inf_does run_e13⟩
  · exact ⟨rfl, inf_does run_e20⟩
  · exact ⟨rfl, inf_does run_e21⟩
  · exact ⟨rfl, inf_does run_e22⟩
  · exact ⟨rfl, inf_does run_e23⟩
  · exact ⟨rfl, inf_does run_e30⟩
  · exact ⟨rfl, inf_does run_e31⟩
  · exact ⟨rfl, inf_does run_e32⟩
  · exact ⟨rfl, inf_does run_e33⟩
  · exact ⟨rfl, inf_does run_f00⟩
  · exact ⟨rfl, inf_does run_f01⟩
  · exact ⟨rfl, inf_does run_f02⟩
  · exact ⟨rfl, inf_does run_f03⟩
  · exact ⟨rfl, inf_does run_f10⟩
  · exact ⟨rfl, inf_does run_f11⟩
  · exact ⟨rfl, inf_does run_f12⟩
  · exact ⟨rfl, inf_does run_f13⟩
  · exact ⟨rfl, inf_does run_f20⟩
  · exact ⟨rfl, inf_does run_f21⟩
  · exact ⟨rfl, inf_does run_f22⟩
  · exact ⟨rfl, inf_does run_f23⟩
  · exact ⟨rfl, inf_does run_f30⟩
  · exact ⟨rfl, inf_does run_f31⟩
  · exact ⟨rfl, inf_does run_f32⟩
  · exact ⟨rfl, inf_does run_f33⟩
  · exact ⟨rfl, true_does run_awake⟩
theorem runL_ck {F : Cf} (hN : Sp.NamesOk F) {nx : Nat} {ss : List Sl} {t : Sp.Tbl} {f : FuncId} {args : V} {ck : V → Sp.R} (hrun : Sp.runL F nx ss t f args ck = .good) : ∃ v, ck v = .good := by
  have hg := Sp.initS_le hrun
  have hg : (Sp.fnS F f).f (Sp.knownS ss t) args (Sp.encH (heapOf nx ss)) (fun v _ => ck v) (fun _ _ => .bad) = .good := by
    cases hq : Sp.fnS F f with
    | mk m => rw [hq] at hg; exact hg
  rcases Sp.fnS_le hN (Sp.knownS_le ss t) hg with ⟨v, h', e1, hv⟩ | ⟨v, h', e1, hv⟩
  · exact ⟨v, hv⟩
  · exact (Sp.bad_ne hv).elim
theorem law4_succ (n : Nat) : law4N (n + 1) = Sp.runL cfB 9 sls tbl4 4 (.cons (.int .u8 n) .nil) (fun v => @Bool.rec (fun _ => Sp.R) .bad (law4N n) (V.eqb v (.bool true))) := by kernel_rfl
theorem law4_one {n : Nat} (h : law4N (n + 1) = Sp.R.good) : law4N n = Sp.R.good ∧ Sp.Does Tryz.prog sls 4 (.cons (.int .u8 n) .nil) fun x => x = .bool true := by
  rw [law4_succ] at h
  refine ⟨?_, ?_⟩
  · obtain ⟨v, hv⟩ := runL_ck cfB_names h
    cases hq : V.eqb v (.bool true) with
    | false => rw [hq] at hv; exact (Sp.bad_ne hv).elim
    | true => rw [hq] at hv; exact hv
  · intro rb off w xs hl ha
    obtain ⟨k1, k2⟩ := Sp.runL_sound (F := cfB) cfB_ok cfB_names sls_ok sls_gl sls_gl' tbl4_ok h rb off w xs hl ha
    refine ⟨k1, k2.mono fun en w' hp => ?_⟩
    obtain ⟨x, e, ⟨E, v, hr, hc⟩, hk⟩ := hp
    refine ⟨x, e, ?_, hk⟩
    cases hv : V.eqb v (.bool true) with
    | false => rw [hv] at hc; exact (Sp.bad_ne hc).elim
    | true =>
      rw [V.eqb_eq hv] at hr
      simpa only [Rel] using hr
theorem law4_all (n : Nat) : law4N n = Sp.R.good → ∀ k, k < n → Sp.Does Tryz.prog sls 4 (.cons (.int .u8 k) .nil) fun x => x = .bool true := by
  induction n with
  | zero => intro _ k hk; exact absurd hk (Nat.not_lt_zero _)
  | succ n ih =>
    intro h k hk
    obtain ⟨h1, h2⟩ := law4_one h
    by_cases e : k = n
    · subst e; exact h2
    · exact ih h1 k (Nat.lt_of_le_of_ne (Nat.le_of_lt_succ hk) e)
theorem law4 (k : Nat) (hk : k < 256) : Sp.Does Tryz.prog sls 4 (.cons (.int .u8 k) .nil) fun x => x = .bool true := law4_all 256 law4_runs k hk
end Go.Proofs.YtniifikiohcloaaGreatDoor
